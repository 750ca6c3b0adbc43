/- CircleCorners: for every input the law returns true, and each argument reads afterwards as it read before; the package variable that the row lists holds what it lists. -/
import Derived.Test.YtfjanlfbnliokaaDoorCards
import Derived.Test.YtfjanlfbnliokaaDoorTie
import Derived.Test.YtfjanlfbnliokaaDoorLaw7b
import Derived.Test.YtfjanlfbnliokaaDoorOpenPt
import Derived.WalkKit
import Derived.ProofKit
import Derived.OpenShut
import Derived.Below
import Derived.Deep.DeepHandedRow
import Derived.Lib.LaidTab
namespace Go.Proofs.YtfjanlfbnliokaaDoor.circleCorners
open Go.ChangeShapes Go.WideShapes Go.ChangeAt Go.RowKit Wd
set_option linter.unusedVariables false
set_option linter.unusedSimpArgs false

theorem own : ownKnob Tryd.prog.godebug = none := by kernel_rfl
theorem laidOut : laidOutB Tryd.prog = true := by kernel_rfl

set_option maxHeartbeats 4000000 in
theorem walk {w : World} (a0 : Int) (w0 : (Lit.int .i64 a0).wf = true) (a1 : Int) (w1 : (Lit.int .i64 a1).wf = true) (a2 b2 : Int) (w2 : (Lit.int .u32 a2).wf = true) (x2 : (Lit.int .u32 b2).wf = true) (hT : TabM w) :
    Calls Tryd.prog 13 #[.int .i64 a0, .int .i64 a1, .agg #[.int .u32 a2, .int .u32 b2]] w fun e w' => e = .returned (.bool true) ∧ Below w.heap.size w w' := by
  have HB0 := Lib.hid (Below.refl w.heap.size w)
  have i0 := isI_of_wf w0
  have i1 := isI_of_wf w1
  have FT := Lib.hid hT; clear hT
  have hw := u32_of_wf w2; have hh := u32_of_wf x2
  have e0 : Int.tdiv a0 4 = Int.tdiv a0 4 := rfl
  have hX := quo4 i0
  have hY := quo4 i1
  generalize hx0 : Int.tdiv a0 4 = X at *
  generalize hy0 : Int.tdiv a1 4 = Y at *
  clear e0
  have iX : IsI X := by unfold IsI; omega
  have iY : IsI Y := by unfold IsI; omega
  have iU : IsI (X + a2 + 1) := by unfold IsI; omega
  have iV : IsI (Y + b2 + 1) := by unfold IsI; omega
  have iN : IsI (X + a2 / 2) := by unfold IsI; omega
  have iM : IsI (Y + b2 / 2) := by unfold IsI; omega
  have iO : IsI (X + a2 + 1 + 1) := by unfold IsI; omega
  rcases (by omega : a2 < 2 ∨ (2 ≤ a2 ∧ b2 < 2) ∨ (2 ≤ a2 ∧ 2 ≤ b2)) with hq | hq | hq
  · have hd1 : decide (a2 < 2) = true := by simpa using hq
    go_enter Tryd.func13, Tryd.ntmps13
    go_wp2_with fail
    go_quiet (fail)
    go_wp2_with fail
    have B : Below w.heap.size w ((((((((w.alloc (.cells #[.int .u32 a2, .int .u32 b2] 57)).drewN nq).alloc (.cells #[.int .i64 (X), .int .i64 (Y)] 23)).alloc (.cells #[.int .i64 (X + a2 + 1), .int .i64 (Y)] 23)).alloc (.cells #[.int .i64 (X + a2 + 1), .int .i64 (Y + b2 + 1)] 23)).alloc (.cells #[.int .i64 (X), .int .i64 (Y + b2 + 1)] 23)).alloc (.cells #[.int .i64 (X + a2 / 2), .int .i64 (Y + b2 / 2)] 23)).alloc (.cells #[.int .i64 (X + a2 + 1 + 1), .int .i64 (Y + b2 + 1)] 23)) := (below_al (below_al (below_al (below_al (below_al (below_al (below_drewN9 ((Below.refl w.heap.size w).alloc (Nat.le_refl _) (.cells #[.int .u32 a2, .int .u32 b2] 57)) nq)))))))
    have Xa : Bx ((((((((w.alloc (.cells #[.int .u32 a2, .int .u32 b2] 57)).drewN nq).alloc (.cells #[.int .i64 (X), .int .i64 (Y)] 23)).alloc (.cells #[.int .i64 (X + a2 + 1), .int .i64 (Y)] 23)).alloc (.cells #[.int .i64 (X + a2 + 1), .int .i64 (Y + b2 + 1)] 23)).alloc (.cells #[.int .i64 (X), .int .i64 (Y + b2 + 1)] 23)).alloc (.cells #[.int .i64 (X + a2 / 2), .int .i64 (Y + b2 / 2)] 23)).alloc (.cells #[.int .i64 (X + a2 + 1 + 1), .int .i64 (Y + b2 + 1)] 23)) (w.heap.size + 1) #[.int .i64 (X), .int .i64 (Y)] 23 := by
      repeat (first | (refine bx_new ?_; (focus (first | rfl | (simp; done)))) | refine bx_al ?_)
    have Xb : Bx ((((((((w.alloc (.cells #[.int .u32 a2, .int .u32 b2] 57)).drewN nq).alloc (.cells #[.int .i64 (X), .int .i64 (Y)] 23)).alloc (.cells #[.int .i64 (X + a2 + 1), .int .i64 (Y)] 23)).alloc (.cells #[.int .i64 (X + a2 + 1), .int .i64 (Y + b2 + 1)] 23)).alloc (.cells #[.int .i64 (X), .int .i64 (Y + b2 + 1)] 23)).alloc (.cells #[.int .i64 (X + a2 / 2), .int .i64 (Y + b2 / 2)] 23)).alloc (.cells #[.int .i64 (X + a2 + 1 + 1), .int .i64 (Y + b2 + 1)] 23)) (w.heap.size + 1 + 1) #[.int .i64 (X + a2 + 1), .int .i64 (Y)] 23 := by
      repeat (first | (refine bx_new ?_; (focus (first | rfl | (simp; done)))) | refine bx_al ?_)
    have Xc : Bx ((((((((w.alloc (.cells #[.int .u32 a2, .int .u32 b2] 57)).drewN nq).alloc (.cells #[.int .i64 (X), .int .i64 (Y)] 23)).alloc (.cells #[.int .i64 (X + a2 + 1), .int .i64 (Y)] 23)).alloc (.cells #[.int .i64 (X + a2 + 1), .int .i64 (Y + b2 + 1)] 23)).alloc (.cells #[.int .i64 (X), .int .i64 (Y + b2 + 1)] 23)).alloc (.cells #[.int .i64 (X + a2 / 2), .int .i64 (Y + b2 / 2)] 23)).alloc (.cells #[.int .i64 (X + a2 + 1 + 1), .int .i64 (Y + b2 + 1)] 23)) (w.heap.size + 1 + 1 + 1) #[.int .i64 (X + a2 + 1), .int .i64 (Y + b2 + 1)] 23 := by
      repeat (first | (refine bx_new ?_; (focus (first | rfl | (simp; done)))) | refine bx_al ?_)
    have Xd : Bx ((((((((w.alloc (.cells #[.int .u32 a2, .int .u32 b2] 57)).drewN nq).alloc (.cells #[.int .i64 (X), .int .i64 (Y)] 23)).alloc (.cells #[.int .i64 (X + a2 + 1), .int .i64 (Y)] 23)).alloc (.cells #[.int .i64 (X + a2 + 1), .int .i64 (Y + b2 + 1)] 23)).alloc (.cells #[.int .i64 (X), .int .i64 (Y + b2 + 1)] 23)).alloc (.cells #[.int .i64 (X + a2 / 2), .int .i64 (Y + b2 / 2)] 23)).alloc (.cells #[.int .i64 (X + a2 + 1 + 1), .int .i64 (Y + b2 + 1)] 23)) (w.heap.size + 1 + 1 + 1 + 1) #[.int .i64 (X), .int .i64 (Y + b2 + 1)] 23 := by
      repeat (first | (refine bx_new ?_; (focus (first | rfl | (simp; done)))) | refine bx_al ?_)
    have Xn : Bx ((((((((w.alloc (.cells #[.int .u32 a2, .int .u32 b2] 57)).drewN nq).alloc (.cells #[.int .i64 (X), .int .i64 (Y)] 23)).alloc (.cells #[.int .i64 (X + a2 + 1), .int .i64 (Y)] 23)).alloc (.cells #[.int .i64 (X + a2 + 1), .int .i64 (Y + b2 + 1)] 23)).alloc (.cells #[.int .i64 (X), .int .i64 (Y + b2 + 1)] 23)).alloc (.cells #[.int .i64 (X + a2 / 2), .int .i64 (Y + b2 / 2)] 23)).alloc (.cells #[.int .i64 (X + a2 + 1 + 1), .int .i64 (Y + b2 + 1)] 23)) (w.heap.size + 1 + 1 + 1 + 1 + 1) #[.int .i64 (X + a2 / 2), .int .i64 (Y + b2 / 2)] 23 := by
      repeat (first | (refine bx_new ?_; (focus (first | rfl | (simp; done)))) | refine bx_al ?_)
    have Xo : Bx ((((((((w.alloc (.cells #[.int .u32 a2, .int .u32 b2] 57)).drewN nq).alloc (.cells #[.int .i64 (X), .int .i64 (Y)] 23)).alloc (.cells #[.int .i64 (X + a2 + 1), .int .i64 (Y)] 23)).alloc (.cells #[.int .i64 (X + a2 + 1), .int .i64 (Y + b2 + 1)] 23)).alloc (.cells #[.int .i64 (X), .int .i64 (Y + b2 + 1)] 23)).alloc (.cells #[.int .i64 (X + a2 / 2), .int .i64 (Y + b2 / 2)] 23)).alloc (.cells #[.int .i64 (X + a2 + 1 + 1), .int .i64 (Y + b2 + 1)] 23)) (w.heap.size + 1 + 1 + 1 + 1 + 1 + 1) #[.int .i64 (X + a2 + 1 + 1), .int .i64 (Y + b2 + 1)] 23 := by
      repeat (first | (refine bx_new ?_; (focus (first | rfl | (simp; done)))) | refine bx_al ?_)
    have FT_1 := Lib.hid (FT.out.below B (Nat.le_refl _)); have HB1 := Lib.hid B
    have FXa := Lib.hid Xa
    have FXb := Lib.hid Xb
    have FXc := Lib.hid Xc
    have FXd := Lib.hid Xd
    have FXn := Lib.hid Xn
    have FXo := Lib.hid Xo
    clear B FT HB0 Xa Xb Xc Xd Xn Xo
    generalize ((((((((w.alloc (.cells #[.int .u32 a2, .int .u32 b2] 57)).drewN nq).alloc (.cells #[.int .i64 (X), .int .i64 (Y)] 23)).alloc (.cells #[.int .i64 (X + a2 + 1), .int .i64 (Y)] 23)).alloc (.cells #[.int .i64 (X + a2 + 1), .int .i64 (Y + b2 + 1)] 23)).alloc (.cells #[.int .i64 (X), .int .i64 (Y + b2 + 1)] 23)).alloc (.cells #[.int .i64 (X + a2 / 2), .int .i64 (Y + b2 / 2)] 23)).alloc (.cells #[.int .i64 (X + a2 + 1 + 1), .int .i64 (Y + b2 + 1)] 23)) = w1 at *
    skip
    refine (alive7 _ FT_1.out).mono ?_
    rintro e w2 ⟨rfl, B⟩
    have HB2 := Lib.hid (HB1.out.trans (B.mono HB1.out.size))
    have FT_2 := Lib.hid (FT_1.out.below B (Nat.le_refl _))
    have FXa_2 := Lib.hid (FXa.out.below B (Nat.le_refl _))
    have FXb_2 := Lib.hid (FXb.out.below B (Nat.le_refl _))
    have FXc_2 := Lib.hid (FXc.out.below B (Nat.le_refl _))
    have FXd_2 := Lib.hid (FXd.out.below B (Nat.le_refl _))
    have FXn_2 := Lib.hid (FXn.out.below B (Nat.le_refl _))
    have FXo_2 := Lib.hid (FXo.out.below B (Nat.le_refl _))
    clear B  HB1 FT_1 FXa FXb FXc FXd FXn FXo
    have vXa0 := FXa_2.out.cell 0 (v := .int .i64 (X)) rfl
    have vXa1 := FXa_2.out.cell 1 (v := .int .i64 (Y)) rfl
    have vXb0 := FXb_2.out.cell 0 (v := .int .i64 (X + a2 + 1)) rfl
    have vXb1 := FXb_2.out.cell 1 (v := .int .i64 (Y)) rfl
    have vXc0 := FXc_2.out.cell 0 (v := .int .i64 (X + a2 + 1)) rfl
    have vXc1 := FXc_2.out.cell 1 (v := .int .i64 (Y + b2 + 1)) rfl
    have vXd0 := FXd_2.out.cell 0 (v := .int .i64 (X)) rfl
    have vXd1 := FXd_2.out.cell 1 (v := .int .i64 (Y + b2 + 1)) rfl
    have vXn0 := FXn_2.out.cell 0 (v := .int .i64 (X + a2 / 2)) rfl
    have vXn1 := FXn_2.out.cell 1 (v := .int .i64 (Y + b2 / 2)) rfl
    have vXo0 := FXo_2.out.cell 0 (v := .int .i64 (X + a2 + 1 + 1)) rfl
    have vXo1 := FXo_2.out.cell 1 (v := .int .i64 (Y + b2 + 1)) rfl
    go_wp2_with fail
    refine (circle_Side (X) (Y) (X + a2 + 1) (Y) (X + a2 + 1) (Y + b2 + 1) (X) (Y + b2 + 1) (show P4 (X) (Y) (X + a2 + 1) (Y) (X + a2 + 1) (Y + b2 + 1) (X) (Y + b2 + 1) from ⟨iX, iY, iU, iY, iU, iV, iX, iV⟩) _ FT_2.out).mono ?_
    rintro e w3 ⟨rfl, B⟩
    clear vXa0 vXa1 vXb0 vXb1 vXc0 vXc1 vXd0 vXd1 vXn0 vXn1 vXo0 vXo1
    have HB3 := Lib.hid (HB2.out.trans (B.mono HB2.out.size))
    have FT_3 := Lib.hid (FT_2.out.below B (Nat.le_refl _))
    have FXa_3 := Lib.hid (FXa_2.out.below B (Nat.le_refl _))
    have FXb_3 := Lib.hid (FXb_2.out.below B (Nat.le_refl _))
    have FXc_3 := Lib.hid (FXc_2.out.below B (Nat.le_refl _))
    have FXd_3 := Lib.hid (FXd_2.out.below B (Nat.le_refl _))
    have FXn_3 := Lib.hid (FXn_2.out.below B (Nat.le_refl _))
    have FXo_3 := Lib.hid (FXo_2.out.below B (Nat.le_refl _))
    clear B  HB2 FT_2 FXa_2 FXb_2 FXc_2 FXd_2 FXn_2 FXo_2
    rw [rect_d X Y a2 b2 hw.1 hh.1]
    have vXa0 := FXa_3.out.cell 0 (v := .int .i64 (X)) rfl
    have vXa1 := FXa_3.out.cell 1 (v := .int .i64 (Y)) rfl
    have vXb0 := FXb_3.out.cell 0 (v := .int .i64 (X + a2 + 1)) rfl
    have vXb1 := FXb_3.out.cell 1 (v := .int .i64 (Y)) rfl
    have vXc0 := FXc_3.out.cell 0 (v := .int .i64 (X + a2 + 1)) rfl
    have vXc1 := FXc_3.out.cell 1 (v := .int .i64 (Y + b2 + 1)) rfl
    have vXd0 := FXd_3.out.cell 0 (v := .int .i64 (X)) rfl
    have vXd1 := FXd_3.out.cell 1 (v := .int .i64 (Y + b2 + 1)) rfl
    have vXn0 := FXn_3.out.cell 0 (v := .int .i64 (X + a2 / 2)) rfl
    have vXn1 := FXn_3.out.cell 1 (v := .int .i64 (Y + b2 / 2)) rfl
    have vXo0 := FXo_3.out.cell 0 (v := .int .i64 (X + a2 + 1 + 1)) rfl
    have vXo1 := FXo_3.out.cell 1 (v := .int .i64 (Y + b2 + 1)) rfl
    go_wp2_with fail
    refine (circle_Side (X) (Y) (X + a2 + 1) (Y) (X + a2 + 1) (Y + b2 + 1) (X + a2 + 1 + 1) (Y + b2 + 1) (show P4 (X) (Y) (X + a2 + 1) (Y) (X + a2 + 1) (Y + b2 + 1) (X + a2 + 1 + 1) (Y + b2 + 1) from ⟨iX, iY, iU, iY, iU, iV, iO, iV⟩) _ FT_3.out).mono ?_
    rintro e w4 ⟨rfl, B⟩
    clear vXa0 vXa1 vXb0 vXb1 vXc0 vXc1 vXd0 vXd1 vXn0 vXn1 vXo0 vXo1
    have HB4 := Lib.hid (HB3.out.trans (B.mono HB3.out.size))
    have FT_4 := Lib.hid (FT_3.out.below B (Nat.le_refl _))
    have FXa_4 := Lib.hid (FXa_3.out.below B (Nat.le_refl _))
    have FXb_4 := Lib.hid (FXb_3.out.below B (Nat.le_refl _))
    have FXc_4 := Lib.hid (FXc_3.out.below B (Nat.le_refl _))
    have FXd_4 := Lib.hid (FXd_3.out.below B (Nat.le_refl _))
    have FXn_4 := Lib.hid (FXn_3.out.below B (Nat.le_refl _))
    have FXo_4 := Lib.hid (FXo_3.out.below B (Nat.le_refl _))
    clear B  HB3 FT_3 FXa_3 FXb_3 FXc_3 FXd_3 FXn_3 FXo_3
    rw [rect_o X Y a2 b2 hw.1 hh.1]
    have vXa0 := FXa_4.out.cell 0 (v := .int .i64 (X)) rfl
    have vXa1 := FXa_4.out.cell 1 (v := .int .i64 (Y)) rfl
    have vXb0 := FXb_4.out.cell 0 (v := .int .i64 (X + a2 + 1)) rfl
    have vXb1 := FXb_4.out.cell 1 (v := .int .i64 (Y)) rfl
    have vXc0 := FXc_4.out.cell 0 (v := .int .i64 (X + a2 + 1)) rfl
    have vXc1 := FXc_4.out.cell 1 (v := .int .i64 (Y + b2 + 1)) rfl
    have vXd0 := FXd_4.out.cell 0 (v := .int .i64 (X)) rfl
    have vXd1 := FXd_4.out.cell 1 (v := .int .i64 (Y + b2 + 1)) rfl
    have vXn0 := FXn_4.out.cell 0 (v := .int .i64 (X + a2 / 2)) rfl
    have vXn1 := FXn_4.out.cell 1 (v := .int .i64 (Y + b2 / 2)) rfl
    have vXo0 := FXo_4.out.cell 0 (v := .int .i64 (X + a2 + 1 + 1)) rfl
    have vXo1 := FXo_4.out.cell 1 (v := .int .i64 (Y + b2 + 1)) rfl
    go_wp2_with fail
    go_ret
    exact ⟨rfl, HB4.out⟩
  · have hd1 : decide (a2 < 2) = false := by simp; omega
    have hd2 : decide (b2 < 2) = true := by simpa using hq.2
    go_enter Tryd.func13, Tryd.ntmps13
    go_wp2_with fail
    go_quiet (fail)
    go_wp2_with fail
    have B : Below w.heap.size w ((((((((w.alloc (.cells #[.int .u32 a2, .int .u32 b2] 57)).drewN nq).alloc (.cells #[.int .i64 (X), .int .i64 (Y)] 23)).alloc (.cells #[.int .i64 (X + a2 + 1), .int .i64 (Y)] 23)).alloc (.cells #[.int .i64 (X + a2 + 1), .int .i64 (Y + b2 + 1)] 23)).alloc (.cells #[.int .i64 (X), .int .i64 (Y + b2 + 1)] 23)).alloc (.cells #[.int .i64 (X + a2 / 2), .int .i64 (Y + b2 / 2)] 23)).alloc (.cells #[.int .i64 (X + a2 + 1 + 1), .int .i64 (Y + b2 + 1)] 23)) := (below_al (below_al (below_al (below_al (below_al (below_al (below_drewN9 ((Below.refl w.heap.size w).alloc (Nat.le_refl _) (.cells #[.int .u32 a2, .int .u32 b2] 57)) nq)))))))
    have Xa : Bx ((((((((w.alloc (.cells #[.int .u32 a2, .int .u32 b2] 57)).drewN nq).alloc (.cells #[.int .i64 (X), .int .i64 (Y)] 23)).alloc (.cells #[.int .i64 (X + a2 + 1), .int .i64 (Y)] 23)).alloc (.cells #[.int .i64 (X + a2 + 1), .int .i64 (Y + b2 + 1)] 23)).alloc (.cells #[.int .i64 (X), .int .i64 (Y + b2 + 1)] 23)).alloc (.cells #[.int .i64 (X + a2 / 2), .int .i64 (Y + b2 / 2)] 23)).alloc (.cells #[.int .i64 (X + a2 + 1 + 1), .int .i64 (Y + b2 + 1)] 23)) (w.heap.size + 1) #[.int .i64 (X), .int .i64 (Y)] 23 := by
      repeat (first | (refine bx_new ?_; (focus (first | rfl | (simp; done)))) | refine bx_al ?_)
    have Xb : Bx ((((((((w.alloc (.cells #[.int .u32 a2, .int .u32 b2] 57)).drewN nq).alloc (.cells #[.int .i64 (X), .int .i64 (Y)] 23)).alloc (.cells #[.int .i64 (X + a2 + 1), .int .i64 (Y)] 23)).alloc (.cells #[.int .i64 (X + a2 + 1), .int .i64 (Y + b2 + 1)] 23)).alloc (.cells #[.int .i64 (X), .int .i64 (Y + b2 + 1)] 23)).alloc (.cells #[.int .i64 (X + a2 / 2), .int .i64 (Y + b2 / 2)] 23)).alloc (.cells #[.int .i64 (X + a2 + 1 + 1), .int .i64 (Y + b2 + 1)] 23)) (w.heap.size + 1 + 1) #[.int .i64 (X + a2 + 1), .int .i64 (Y)] 23 := by
      repeat (first | (refine bx_new ?_; (focus (first | rfl | (simp; done)))) | refine bx_al ?_)
    have Xc : Bx ((((((((w.alloc (.cells #[.int .u32 a2, .int .u32 b2] 57)).drewN nq).alloc (.cells #[.int .i64 (X), .int .i64 (Y)] 23)).alloc (.cells #[.int .i64 (X + a2 + 1), .int .i64 (Y)] 23)).alloc (.cells #[.int .i64 (X + a2 + 1), .int .i64 (Y + b2 + 1)] 23)).alloc (.cells #[.int .i64 (X), .int .i64 (Y + b2 + 1)] 23)).alloc (.cells #[.int .i64 (X + a2 / 2), .int .i64 (Y + b2 / 2)] 23)).alloc (.cells #[.int .i64 (X + a2 + 1 + 1), .int .i64 (Y + b2 + 1)] 23)) (w.heap.size + 1 + 1 + 1) #[.int .i64 (X + a2 + 1), .int .i64 (Y + b2 + 1)] 23 := by
      repeat (first | (refine bx_new ?_; (focus (first | rfl | (simp; done)))) | refine bx_al ?_)
    have Xd : Bx ((((((((w.alloc (.cells #[.int .u32 a2, .int .u32 b2] 57)).drewN nq).alloc (.cells #[.int .i64 (X), .int .i64 (Y)] 23)).alloc (.cells #[.int .i64 (X + a2 + 1), .int .i64 (Y)] 23)).alloc (.cells #[.int .i64 (X + a2 + 1), .int .i64 (Y + b2 + 1)] 23)).alloc (.cells #[.int .i64 (X), .int .i64 (Y + b2 + 1)] 23)).alloc (.cells #[.int .i64 (X + a2 / 2), .int .i64 (Y + b2 / 2)] 23)).alloc (.cells #[.int .i64 (X + a2 + 1 + 1), .int .i64 (Y + b2 + 1)] 23)) (w.heap.size + 1 + 1 + 1 + 1) #[.int .i64 (X), .int .i64 (Y + b2 + 1)] 23 := by
      repeat (first | (refine bx_new ?_; (focus (first | rfl | (simp; done)))) | refine bx_al ?_)
    have Xn : Bx ((((((((w.alloc (.cells #[.int .u32 a2, .int .u32 b2] 57)).drewN nq).alloc (.cells #[.int .i64 (X), .int .i64 (Y)] 23)).alloc (.cells #[.int .i64 (X + a2 + 1), .int .i64 (Y)] 23)).alloc (.cells #[.int .i64 (X + a2 + 1), .int .i64 (Y + b2 + 1)] 23)).alloc (.cells #[.int .i64 (X), .int .i64 (Y + b2 + 1)] 23)).alloc (.cells #[.int .i64 (X + a2 / 2), .int .i64 (Y + b2 / 2)] 23)).alloc (.cells #[.int .i64 (X + a2 + 1 + 1), .int .i64 (Y + b2 + 1)] 23)) (w.heap.size + 1 + 1 + 1 + 1 + 1) #[.int .i64 (X + a2 / 2), .int .i64 (Y + b2 / 2)] 23 := by
      repeat (first | (refine bx_new ?_; (focus (first | rfl | (simp; done)))) | refine bx_al ?_)
    have Xo : Bx ((((((((w.alloc (.cells #[.int .u32 a2, .int .u32 b2] 57)).drewN nq).alloc (.cells #[.int .i64 (X), .int .i64 (Y)] 23)).alloc (.cells #[.int .i64 (X + a2 + 1), .int .i64 (Y)] 23)).alloc (.cells #[.int .i64 (X + a2 + 1), .int .i64 (Y + b2 + 1)] 23)).alloc (.cells #[.int .i64 (X), .int .i64 (Y + b2 + 1)] 23)).alloc (.cells #[.int .i64 (X + a2 / 2), .int .i64 (Y + b2 / 2)] 23)).alloc (.cells #[.int .i64 (X + a2 + 1 + 1), .int .i64 (Y + b2 + 1)] 23)) (w.heap.size + 1 + 1 + 1 + 1 + 1 + 1) #[.int .i64 (X + a2 + 1 + 1), .int .i64 (Y + b2 + 1)] 23 := by
      repeat (first | (refine bx_new ?_; (focus (first | rfl | (simp; done)))) | refine bx_al ?_)
    have FT_1 := Lib.hid (FT.out.below B (Nat.le_refl _)); have HB1 := Lib.hid B
    have FXa := Lib.hid Xa
    have FXb := Lib.hid Xb
    have FXc := Lib.hid Xc
    have FXd := Lib.hid Xd
    have FXn := Lib.hid Xn
    have FXo := Lib.hid Xo
    clear B FT HB0 Xa Xb Xc Xd Xn Xo
    generalize ((((((((w.alloc (.cells #[.int .u32 a2, .int .u32 b2] 57)).drewN nq).alloc (.cells #[.int .i64 (X), .int .i64 (Y)] 23)).alloc (.cells #[.int .i64 (X + a2 + 1), .int .i64 (Y)] 23)).alloc (.cells #[.int .i64 (X + a2 + 1), .int .i64 (Y + b2 + 1)] 23)).alloc (.cells #[.int .i64 (X), .int .i64 (Y + b2 + 1)] 23)).alloc (.cells #[.int .i64 (X + a2 / 2), .int .i64 (Y + b2 / 2)] 23)).alloc (.cells #[.int .i64 (X + a2 + 1 + 1), .int .i64 (Y + b2 + 1)] 23)) = w1 at *
    skip
    refine (alive7 _ FT_1.out).mono ?_
    rintro e w2 ⟨rfl, B⟩
    have HB2 := Lib.hid (HB1.out.trans (B.mono HB1.out.size))
    have FT_2 := Lib.hid (FT_1.out.below B (Nat.le_refl _))
    have FXa_2 := Lib.hid (FXa.out.below B (Nat.le_refl _))
    have FXb_2 := Lib.hid (FXb.out.below B (Nat.le_refl _))
    have FXc_2 := Lib.hid (FXc.out.below B (Nat.le_refl _))
    have FXd_2 := Lib.hid (FXd.out.below B (Nat.le_refl _))
    have FXn_2 := Lib.hid (FXn.out.below B (Nat.le_refl _))
    have FXo_2 := Lib.hid (FXo.out.below B (Nat.le_refl _))
    clear B  HB1 FT_1 FXa FXb FXc FXd FXn FXo
    have vXa0 := FXa_2.out.cell 0 (v := .int .i64 (X)) rfl
    have vXa1 := FXa_2.out.cell 1 (v := .int .i64 (Y)) rfl
    have vXb0 := FXb_2.out.cell 0 (v := .int .i64 (X + a2 + 1)) rfl
    have vXb1 := FXb_2.out.cell 1 (v := .int .i64 (Y)) rfl
    have vXc0 := FXc_2.out.cell 0 (v := .int .i64 (X + a2 + 1)) rfl
    have vXc1 := FXc_2.out.cell 1 (v := .int .i64 (Y + b2 + 1)) rfl
    have vXd0 := FXd_2.out.cell 0 (v := .int .i64 (X)) rfl
    have vXd1 := FXd_2.out.cell 1 (v := .int .i64 (Y + b2 + 1)) rfl
    have vXn0 := FXn_2.out.cell 0 (v := .int .i64 (X + a2 / 2)) rfl
    have vXn1 := FXn_2.out.cell 1 (v := .int .i64 (Y + b2 / 2)) rfl
    have vXo0 := FXo_2.out.cell 0 (v := .int .i64 (X + a2 + 1 + 1)) rfl
    have vXo1 := FXo_2.out.cell 1 (v := .int .i64 (Y + b2 + 1)) rfl
    go_wp2_with fail
    refine (circle_Side (X) (Y) (X + a2 + 1) (Y) (X + a2 + 1) (Y + b2 + 1) (X) (Y + b2 + 1) (show P4 (X) (Y) (X + a2 + 1) (Y) (X + a2 + 1) (Y + b2 + 1) (X) (Y + b2 + 1) from ⟨iX, iY, iU, iY, iU, iV, iX, iV⟩) _ FT_2.out).mono ?_
    rintro e w3 ⟨rfl, B⟩
    clear vXa0 vXa1 vXb0 vXb1 vXc0 vXc1 vXd0 vXd1 vXn0 vXn1 vXo0 vXo1
    have HB3 := Lib.hid (HB2.out.trans (B.mono HB2.out.size))
    have FT_3 := Lib.hid (FT_2.out.below B (Nat.le_refl _))
    have FXa_3 := Lib.hid (FXa_2.out.below B (Nat.le_refl _))
    have FXb_3 := Lib.hid (FXb_2.out.below B (Nat.le_refl _))
    have FXc_3 := Lib.hid (FXc_2.out.below B (Nat.le_refl _))
    have FXd_3 := Lib.hid (FXd_2.out.below B (Nat.le_refl _))
    have FXn_3 := Lib.hid (FXn_2.out.below B (Nat.le_refl _))
    have FXo_3 := Lib.hid (FXo_2.out.below B (Nat.le_refl _))
    clear B  HB2 FT_2 FXa_2 FXb_2 FXc_2 FXd_2 FXn_2 FXo_2
    rw [rect_d X Y a2 b2 hw.1 hh.1]
    have vXa0 := FXa_3.out.cell 0 (v := .int .i64 (X)) rfl
    have vXa1 := FXa_3.out.cell 1 (v := .int .i64 (Y)) rfl
    have vXb0 := FXb_3.out.cell 0 (v := .int .i64 (X + a2 + 1)) rfl
    have vXb1 := FXb_3.out.cell 1 (v := .int .i64 (Y)) rfl
    have vXc0 := FXc_3.out.cell 0 (v := .int .i64 (X + a2 + 1)) rfl
    have vXc1 := FXc_3.out.cell 1 (v := .int .i64 (Y + b2 + 1)) rfl
    have vXd0 := FXd_3.out.cell 0 (v := .int .i64 (X)) rfl
    have vXd1 := FXd_3.out.cell 1 (v := .int .i64 (Y + b2 + 1)) rfl
    have vXn0 := FXn_3.out.cell 0 (v := .int .i64 (X + a2 / 2)) rfl
    have vXn1 := FXn_3.out.cell 1 (v := .int .i64 (Y + b2 / 2)) rfl
    have vXo0 := FXo_3.out.cell 0 (v := .int .i64 (X + a2 + 1 + 1)) rfl
    have vXo1 := FXo_3.out.cell 1 (v := .int .i64 (Y + b2 + 1)) rfl
    go_wp2_with fail
    refine (circle_Side (X) (Y) (X + a2 + 1) (Y) (X + a2 + 1) (Y + b2 + 1) (X + a2 + 1 + 1) (Y + b2 + 1) (show P4 (X) (Y) (X + a2 + 1) (Y) (X + a2 + 1) (Y + b2 + 1) (X + a2 + 1 + 1) (Y + b2 + 1) from ⟨iX, iY, iU, iY, iU, iV, iO, iV⟩) _ FT_3.out).mono ?_
    rintro e w4 ⟨rfl, B⟩
    clear vXa0 vXa1 vXb0 vXb1 vXc0 vXc1 vXd0 vXd1 vXn0 vXn1 vXo0 vXo1
    have HB4 := Lib.hid (HB3.out.trans (B.mono HB3.out.size))
    have FT_4 := Lib.hid (FT_3.out.below B (Nat.le_refl _))
    have FXa_4 := Lib.hid (FXa_3.out.below B (Nat.le_refl _))
    have FXb_4 := Lib.hid (FXb_3.out.below B (Nat.le_refl _))
    have FXc_4 := Lib.hid (FXc_3.out.below B (Nat.le_refl _))
    have FXd_4 := Lib.hid (FXd_3.out.below B (Nat.le_refl _))
    have FXn_4 := Lib.hid (FXn_3.out.below B (Nat.le_refl _))
    have FXo_4 := Lib.hid (FXo_3.out.below B (Nat.le_refl _))
    clear B  HB3 FT_3 FXa_3 FXb_3 FXc_3 FXd_3 FXn_3 FXo_3
    rw [rect_o X Y a2 b2 hw.1 hh.1]
    have vXa0 := FXa_4.out.cell 0 (v := .int .i64 (X)) rfl
    have vXa1 := FXa_4.out.cell 1 (v := .int .i64 (Y)) rfl
    have vXb0 := FXb_4.out.cell 0 (v := .int .i64 (X + a2 + 1)) rfl
    have vXb1 := FXb_4.out.cell 1 (v := .int .i64 (Y)) rfl
    have vXc0 := FXc_4.out.cell 0 (v := .int .i64 (X + a2 + 1)) rfl
    have vXc1 := FXc_4.out.cell 1 (v := .int .i64 (Y + b2 + 1)) rfl
    have vXd0 := FXd_4.out.cell 0 (v := .int .i64 (X)) rfl
    have vXd1 := FXd_4.out.cell 1 (v := .int .i64 (Y + b2 + 1)) rfl
    have vXn0 := FXn_4.out.cell 0 (v := .int .i64 (X + a2 / 2)) rfl
    have vXn1 := FXn_4.out.cell 1 (v := .int .i64 (Y + b2 / 2)) rfl
    have vXo0 := FXo_4.out.cell 0 (v := .int .i64 (X + a2 + 1 + 1)) rfl
    have vXo1 := FXo_4.out.cell 1 (v := .int .i64 (Y + b2 + 1)) rfl
    go_wp2_with fail
    go_ret
    exact ⟨rfl, HB4.out⟩
  · have hd1 : decide (a2 < 2) = false := by simp; omega
    have hd2 : decide (b2 < 2) = false := by simp; omega
    go_enter Tryd.func13, Tryd.ntmps13
    go_wp2_with fail
    go_quiet (fail)
    go_wp2_with fail
    have B : Below w.heap.size w ((((((((w.alloc (.cells #[.int .u32 a2, .int .u32 b2] 57)).drewN nq).alloc (.cells #[.int .i64 (X), .int .i64 (Y)] 23)).alloc (.cells #[.int .i64 (X + a2 + 1), .int .i64 (Y)] 23)).alloc (.cells #[.int .i64 (X + a2 + 1), .int .i64 (Y + b2 + 1)] 23)).alloc (.cells #[.int .i64 (X), .int .i64 (Y + b2 + 1)] 23)).alloc (.cells #[.int .i64 (X + a2 / 2), .int .i64 (Y + b2 / 2)] 23)).alloc (.cells #[.int .i64 (X + a2 + 1 + 1), .int .i64 (Y + b2 + 1)] 23)) := (below_al (below_al (below_al (below_al (below_al (below_al (below_drewN9 ((Below.refl w.heap.size w).alloc (Nat.le_refl _) (.cells #[.int .u32 a2, .int .u32 b2] 57)) nq)))))))
    have Xa : Bx ((((((((w.alloc (.cells #[.int .u32 a2, .int .u32 b2] 57)).drewN nq).alloc (.cells #[.int .i64 (X), .int .i64 (Y)] 23)).alloc (.cells #[.int .i64 (X + a2 + 1), .int .i64 (Y)] 23)).alloc (.cells #[.int .i64 (X + a2 + 1), .int .i64 (Y + b2 + 1)] 23)).alloc (.cells #[.int .i64 (X), .int .i64 (Y + b2 + 1)] 23)).alloc (.cells #[.int .i64 (X + a2 / 2), .int .i64 (Y + b2 / 2)] 23)).alloc (.cells #[.int .i64 (X + a2 + 1 + 1), .int .i64 (Y + b2 + 1)] 23)) (w.heap.size + 1) #[.int .i64 (X), .int .i64 (Y)] 23 := by
      repeat (first | (refine bx_new ?_; (focus (first | rfl | (simp; done)))) | refine bx_al ?_)
    have Xb : Bx ((((((((w.alloc (.cells #[.int .u32 a2, .int .u32 b2] 57)).drewN nq).alloc (.cells #[.int .i64 (X), .int .i64 (Y)] 23)).alloc (.cells #[.int .i64 (X + a2 + 1), .int .i64 (Y)] 23)).alloc (.cells #[.int .i64 (X + a2 + 1), .int .i64 (Y + b2 + 1)] 23)).alloc (.cells #[.int .i64 (X), .int .i64 (Y + b2 + 1)] 23)).alloc (.cells #[.int .i64 (X + a2 / 2), .int .i64 (Y + b2 / 2)] 23)).alloc (.cells #[.int .i64 (X + a2 + 1 + 1), .int .i64 (Y + b2 + 1)] 23)) (w.heap.size + 1 + 1) #[.int .i64 (X + a2 + 1), .int .i64 (Y)] 23 := by
      repeat (first | (refine bx_new ?_; (focus (first | rfl | (simp; done)))) | refine bx_al ?_)
    have Xc : Bx ((((((((w.alloc (.cells #[.int .u32 a2, .int .u32 b2] 57)).drewN nq).alloc (.cells #[.int .i64 (X), .int .i64 (Y)] 23)).alloc (.cells #[.int .i64 (X + a2 + 1), .int .i64 (Y)] 23)).alloc (.cells #[.int .i64 (X + a2 + 1), .int .i64 (Y + b2 + 1)] 23)).alloc (.cells #[.int .i64 (X), .int .i64 (Y + b2 + 1)] 23)).alloc (.cells #[.int .i64 (X + a2 / 2), .int .i64 (Y + b2 / 2)] 23)).alloc (.cells #[.int .i64 (X + a2 + 1 + 1), .int .i64 (Y + b2 + 1)] 23)) (w.heap.size + 1 + 1 + 1) #[.int .i64 (X + a2 + 1), .int .i64 (Y + b2 + 1)] 23 := by
      repeat (first | (refine bx_new ?_; (focus (first | rfl | (simp; done)))) | refine bx_al ?_)
    have Xd : Bx ((((((((w.alloc (.cells #[.int .u32 a2, .int .u32 b2] 57)).drewN nq).alloc (.cells #[.int .i64 (X), .int .i64 (Y)] 23)).alloc (.cells #[.int .i64 (X + a2 + 1), .int .i64 (Y)] 23)).alloc (.cells #[.int .i64 (X + a2 + 1), .int .i64 (Y + b2 + 1)] 23)).alloc (.cells #[.int .i64 (X), .int .i64 (Y + b2 + 1)] 23)).alloc (.cells #[.int .i64 (X + a2 / 2), .int .i64 (Y + b2 / 2)] 23)).alloc (.cells #[.int .i64 (X + a2 + 1 + 1), .int .i64 (Y + b2 + 1)] 23)) (w.heap.size + 1 + 1 + 1 + 1) #[.int .i64 (X), .int .i64 (Y + b2 + 1)] 23 := by
      repeat (first | (refine bx_new ?_; (focus (first | rfl | (simp; done)))) | refine bx_al ?_)
    have Xn : Bx ((((((((w.alloc (.cells #[.int .u32 a2, .int .u32 b2] 57)).drewN nq).alloc (.cells #[.int .i64 (X), .int .i64 (Y)] 23)).alloc (.cells #[.int .i64 (X + a2 + 1), .int .i64 (Y)] 23)).alloc (.cells #[.int .i64 (X + a2 + 1), .int .i64 (Y + b2 + 1)] 23)).alloc (.cells #[.int .i64 (X), .int .i64 (Y + b2 + 1)] 23)).alloc (.cells #[.int .i64 (X + a2 / 2), .int .i64 (Y + b2 / 2)] 23)).alloc (.cells #[.int .i64 (X + a2 + 1 + 1), .int .i64 (Y + b2 + 1)] 23)) (w.heap.size + 1 + 1 + 1 + 1 + 1) #[.int .i64 (X + a2 / 2), .int .i64 (Y + b2 / 2)] 23 := by
      repeat (first | (refine bx_new ?_; (focus (first | rfl | (simp; done)))) | refine bx_al ?_)
    have Xo : Bx ((((((((w.alloc (.cells #[.int .u32 a2, .int .u32 b2] 57)).drewN nq).alloc (.cells #[.int .i64 (X), .int .i64 (Y)] 23)).alloc (.cells #[.int .i64 (X + a2 + 1), .int .i64 (Y)] 23)).alloc (.cells #[.int .i64 (X + a2 + 1), .int .i64 (Y + b2 + 1)] 23)).alloc (.cells #[.int .i64 (X), .int .i64 (Y + b2 + 1)] 23)).alloc (.cells #[.int .i64 (X + a2 / 2), .int .i64 (Y + b2 / 2)] 23)).alloc (.cells #[.int .i64 (X + a2 + 1 + 1), .int .i64 (Y + b2 + 1)] 23)) (w.heap.size + 1 + 1 + 1 + 1 + 1 + 1) #[.int .i64 (X + a2 + 1 + 1), .int .i64 (Y + b2 + 1)] 23 := by
      repeat (first | (refine bx_new ?_; (focus (first | rfl | (simp; done)))) | refine bx_al ?_)
    have FT_1 := Lib.hid (FT.out.below B (Nat.le_refl _)); have HB1 := Lib.hid B
    have FXa := Lib.hid Xa
    have FXb := Lib.hid Xb
    have FXc := Lib.hid Xc
    have FXd := Lib.hid Xd
    have FXn := Lib.hid Xn
    have FXo := Lib.hid Xo
    clear B FT HB0 Xa Xb Xc Xd Xn Xo
    generalize ((((((((w.alloc (.cells #[.int .u32 a2, .int .u32 b2] 57)).drewN nq).alloc (.cells #[.int .i64 (X), .int .i64 (Y)] 23)).alloc (.cells #[.int .i64 (X + a2 + 1), .int .i64 (Y)] 23)).alloc (.cells #[.int .i64 (X + a2 + 1), .int .i64 (Y + b2 + 1)] 23)).alloc (.cells #[.int .i64 (X), .int .i64 (Y + b2 + 1)] 23)).alloc (.cells #[.int .i64 (X + a2 / 2), .int .i64 (Y + b2 / 2)] 23)).alloc (.cells #[.int .i64 (X + a2 + 1 + 1), .int .i64 (Y + b2 + 1)] 23)) = w1 at *
    skip
    refine (alive7 _ FT_1.out).mono ?_
    rintro e w2 ⟨rfl, B⟩
    have HB2 := Lib.hid (HB1.out.trans (B.mono HB1.out.size))
    have FT_2 := Lib.hid (FT_1.out.below B (Nat.le_refl _))
    have FXa_2 := Lib.hid (FXa.out.below B (Nat.le_refl _))
    have FXb_2 := Lib.hid (FXb.out.below B (Nat.le_refl _))
    have FXc_2 := Lib.hid (FXc.out.below B (Nat.le_refl _))
    have FXd_2 := Lib.hid (FXd.out.below B (Nat.le_refl _))
    have FXn_2 := Lib.hid (FXn.out.below B (Nat.le_refl _))
    have FXo_2 := Lib.hid (FXo.out.below B (Nat.le_refl _))
    clear B  HB1 FT_1 FXa FXb FXc FXd FXn FXo
    have vXa0 := FXa_2.out.cell 0 (v := .int .i64 (X)) rfl
    have vXa1 := FXa_2.out.cell 1 (v := .int .i64 (Y)) rfl
    have vXb0 := FXb_2.out.cell 0 (v := .int .i64 (X + a2 + 1)) rfl
    have vXb1 := FXb_2.out.cell 1 (v := .int .i64 (Y)) rfl
    have vXc0 := FXc_2.out.cell 0 (v := .int .i64 (X + a2 + 1)) rfl
    have vXc1 := FXc_2.out.cell 1 (v := .int .i64 (Y + b2 + 1)) rfl
    have vXd0 := FXd_2.out.cell 0 (v := .int .i64 (X)) rfl
    have vXd1 := FXd_2.out.cell 1 (v := .int .i64 (Y + b2 + 1)) rfl
    have vXn0 := FXn_2.out.cell 0 (v := .int .i64 (X + a2 / 2)) rfl
    have vXn1 := FXn_2.out.cell 1 (v := .int .i64 (Y + b2 / 2)) rfl
    have vXo0 := FXo_2.out.cell 0 (v := .int .i64 (X + a2 + 1 + 1)) rfl
    have vXo1 := FXo_2.out.cell 1 (v := .int .i64 (Y + b2 + 1)) rfl
    go_wp2_with fail
    refine (circle_Side (X) (Y) (X + a2 + 1) (Y) (X + a2 + 1) (Y + b2 + 1) (X) (Y + b2 + 1) (show P4 (X) (Y) (X + a2 + 1) (Y) (X + a2 + 1) (Y + b2 + 1) (X) (Y + b2 + 1) from ⟨iX, iY, iU, iY, iU, iV, iX, iV⟩) _ FT_2.out).mono ?_
    rintro e w3 ⟨rfl, B⟩
    clear vXa0 vXa1 vXb0 vXb1 vXc0 vXc1 vXd0 vXd1 vXn0 vXn1 vXo0 vXo1
    have HB3 := Lib.hid (HB2.out.trans (B.mono HB2.out.size))
    have FT_3 := Lib.hid (FT_2.out.below B (Nat.le_refl _))
    have FXa_3 := Lib.hid (FXa_2.out.below B (Nat.le_refl _))
    have FXb_3 := Lib.hid (FXb_2.out.below B (Nat.le_refl _))
    have FXc_3 := Lib.hid (FXc_2.out.below B (Nat.le_refl _))
    have FXd_3 := Lib.hid (FXd_2.out.below B (Nat.le_refl _))
    have FXn_3 := Lib.hid (FXn_2.out.below B (Nat.le_refl _))
    have FXo_3 := Lib.hid (FXo_2.out.below B (Nat.le_refl _))
    clear B  HB2 FT_2 FXa_2 FXb_2 FXc_2 FXd_2 FXn_2 FXo_2
    rw [rect_d X Y a2 b2 hw.1 hh.1]
    have vXa0 := FXa_3.out.cell 0 (v := .int .i64 (X)) rfl
    have vXa1 := FXa_3.out.cell 1 (v := .int .i64 (Y)) rfl
    have vXb0 := FXb_3.out.cell 0 (v := .int .i64 (X + a2 + 1)) rfl
    have vXb1 := FXb_3.out.cell 1 (v := .int .i64 (Y)) rfl
    have vXc0 := FXc_3.out.cell 0 (v := .int .i64 (X + a2 + 1)) rfl
    have vXc1 := FXc_3.out.cell 1 (v := .int .i64 (Y + b2 + 1)) rfl
    have vXd0 := FXd_3.out.cell 0 (v := .int .i64 (X)) rfl
    have vXd1 := FXd_3.out.cell 1 (v := .int .i64 (Y + b2 + 1)) rfl
    have vXn0 := FXn_3.out.cell 0 (v := .int .i64 (X + a2 / 2)) rfl
    have vXn1 := FXn_3.out.cell 1 (v := .int .i64 (Y + b2 / 2)) rfl
    have vXo0 := FXo_3.out.cell 0 (v := .int .i64 (X + a2 + 1 + 1)) rfl
    have vXo1 := FXo_3.out.cell 1 (v := .int .i64 (Y + b2 + 1)) rfl
    go_wp2_with fail
    refine (circle_Side (X) (Y) (X + a2 + 1) (Y) (X + a2 + 1) (Y + b2 + 1) (X + a2 + 1 + 1) (Y + b2 + 1) (show P4 (X) (Y) (X + a2 + 1) (Y) (X + a2 + 1) (Y + b2 + 1) (X + a2 + 1 + 1) (Y + b2 + 1) from ⟨iX, iY, iU, iY, iU, iV, iO, iV⟩) _ FT_3.out).mono ?_
    rintro e w4 ⟨rfl, B⟩
    clear vXa0 vXa1 vXb0 vXb1 vXc0 vXc1 vXd0 vXd1 vXn0 vXn1 vXo0 vXo1
    have HB4 := Lib.hid (HB3.out.trans (B.mono HB3.out.size))
    have FT_4 := Lib.hid (FT_3.out.below B (Nat.le_refl _))
    have FXa_4 := Lib.hid (FXa_3.out.below B (Nat.le_refl _))
    have FXb_4 := Lib.hid (FXb_3.out.below B (Nat.le_refl _))
    have FXc_4 := Lib.hid (FXc_3.out.below B (Nat.le_refl _))
    have FXd_4 := Lib.hid (FXd_3.out.below B (Nat.le_refl _))
    have FXn_4 := Lib.hid (FXn_3.out.below B (Nat.le_refl _))
    have FXo_4 := Lib.hid (FXo_3.out.below B (Nat.le_refl _))
    clear B  HB3 FT_3 FXa_3 FXb_3 FXc_3 FXd_3 FXn_3 FXo_3
    rw [rect_o X Y a2 b2 hw.1 hh.1]
    have vXa0 := FXa_4.out.cell 0 (v := .int .i64 (X)) rfl
    have vXa1 := FXa_4.out.cell 1 (v := .int .i64 (Y)) rfl
    have vXb0 := FXb_4.out.cell 0 (v := .int .i64 (X + a2 + 1)) rfl
    have vXb1 := FXb_4.out.cell 1 (v := .int .i64 (Y)) rfl
    have vXc0 := FXc_4.out.cell 0 (v := .int .i64 (X + a2 + 1)) rfl
    have vXc1 := FXc_4.out.cell 1 (v := .int .i64 (Y + b2 + 1)) rfl
    have vXd0 := FXd_4.out.cell 0 (v := .int .i64 (X)) rfl
    have vXd1 := FXd_4.out.cell 1 (v := .int .i64 (Y + b2 + 1)) rfl
    have vXn0 := FXn_4.out.cell 0 (v := .int .i64 (X + a2 / 2)) rfl
    have vXn1 := FXn_4.out.cell 1 (v := .int .i64 (Y + b2 / 2)) rfl
    have vXo0 := FXo_4.out.cell 0 (v := .int .i64 (X + a2 + 1 + 1)) rfl
    have vXo1 := FXo_4.out.cell 1 (v := .int .i64 (Y + b2 + 1)) rfl
    go_wp2_with fail
    refine (circle_Side (X) (Y) (X + a2 + 1) (Y) (X + a2 + 1) (Y + b2 + 1) (X + a2 / 2) (Y + b2 / 2) (show P4 (X) (Y) (X + a2 + 1) (Y) (X + a2 + 1) (Y + b2 + 1) (X + a2 / 2) (Y + b2 / 2) from ⟨iX, iY, iU, iY, iU, iV, iN, iM⟩) _ FT_4.out).mono ?_
    rintro e w5 ⟨rfl, B⟩
    clear vXa0 vXa1 vXb0 vXb1 vXc0 vXc1 vXd0 vXd1 vXn0 vXn1 vXo0 vXo1
    have HB5 := Lib.hid (HB4.out.trans (B.mono HB4.out.size))
    have FT_5 := Lib.hid (FT_4.out.below B (Nat.le_refl _))
    have FXa_5 := Lib.hid (FXa_4.out.below B (Nat.le_refl _))
    have FXb_5 := Lib.hid (FXb_4.out.below B (Nat.le_refl _))
    have FXc_5 := Lib.hid (FXc_4.out.below B (Nat.le_refl _))
    have FXd_5 := Lib.hid (FXd_4.out.below B (Nat.le_refl _))
    have FXn_5 := Lib.hid (FXn_4.out.below B (Nat.le_refl _))
    have FXo_5 := Lib.hid (FXo_4.out.below B (Nat.le_refl _))
    clear B  HB4 FT_4 FXa_4 FXb_4 FXc_4 FXd_4 FXn_4 FXo_4
    rw [rect_n X Y a2 b2 (by omega) (by omega)]
    have vXa0 := FXa_5.out.cell 0 (v := .int .i64 (X)) rfl
    have vXa1 := FXa_5.out.cell 1 (v := .int .i64 (Y)) rfl
    have vXb0 := FXb_5.out.cell 0 (v := .int .i64 (X + a2 + 1)) rfl
    have vXb1 := FXb_5.out.cell 1 (v := .int .i64 (Y)) rfl
    have vXc0 := FXc_5.out.cell 0 (v := .int .i64 (X + a2 + 1)) rfl
    have vXc1 := FXc_5.out.cell 1 (v := .int .i64 (Y + b2 + 1)) rfl
    have vXd0 := FXd_5.out.cell 0 (v := .int .i64 (X)) rfl
    have vXd1 := FXd_5.out.cell 1 (v := .int .i64 (Y + b2 + 1)) rfl
    have vXn0 := FXn_5.out.cell 0 (v := .int .i64 (X + a2 / 2)) rfl
    have vXn1 := FXn_5.out.cell 1 (v := .int .i64 (Y + b2 / 2)) rfl
    have vXo0 := FXo_5.out.cell 0 (v := .int .i64 (X + a2 + 1 + 1)) rfl
    have vXo1 := FXo_5.out.cell 1 (v := .int .i64 (Y + b2 + 1)) rfl
    go_wp2_with fail
    go_ret
    exact ⟨rfl, HB5.out⟩

theorem gTab0 : Tryd.prog.globalNamed "geofence/mask.words" = some 1 := by kernel_rfl
theorem gTabType0 : (Tryd.prog.globals[1]?).map (·.type) = some 69 := by kernel_rfl
theorem cellsT0 : Tryd.prog.cellsOf 69 = 2 := by kernel_rfl
theorem cellsE0 : Tryd.prog.cellsOf 36 = 1 := by kernel_rfl
theorem tableIs0 {W : World} (h : laidMetH Tryd.prog Rows.circleCornersRow.laid W) : Lib.TabIs Tryd.prog W "geofence/mask.words" .u64 [9223372036854775808, 18446744073709551615] :=
  Lib.tabIs_of_head (rest := _) gTab0 gTabType0 Tryd.underlying69 Tryd.underlying36 cellsE0 cellsT0 h
theorem table0 {W : World} (h : laidMetH Tryd.prog Rows.circleCornersRow.laid W) : TabM W := ⟨(tableIs0 h).cell gTab0 0 (by decide), (tableIs0 h).cell gTab0 1 (by decide)⟩

theorem contract (H : Type) (enc : TypeId × Value → H) (W : World) (base : Nat) (args : Array Value) (ds gs : List (DataW H)) (before : List MemPlace)
    (hval : ∀ (j : Nat) t v, Tryd.f13.params[j]? = some t → args[j]? = some v → Value.okWide Tryd.prog W .any base t v)
    (hW : DataW.Whole enc Tryd.prog Tryd.f13.params.toList Rows.circleCornersSpec.vars false W args.toList ds gs before) (hL : laidMetH Tryd.prog Rows.circleCornersRow.laid W) :
    Calls Tryd.prog 13 args W fun e W' => ∃ v, e = .returned v ∧ Rows.circleCornersSpec.post enc Tryd.prog Tryd.f13 false true false false W args v W' := by
  have hW' := hW
  obtain ⟨p, q, hA0, hV, rfl, hfz, hnd⟩ := hW
  have hA : DataW.TrodAll enc Tryd.prog W 0 (fun _ => true) true Tryd.f13.params.toList args.toList ds p := hA0
  rw [Tryd.params13] at hA hval
  obtain ⟨v0, vs0, d0, ds0, p0, q0, hargs, rfl, rfl, h0, r0⟩ := trodAll_cons hA
  obtain ⟨v1, vs1, d1, ds1, p1, q1, rfl, rfl, rfl, h1, r1⟩ := trodAll_cons r0
  obtain ⟨v2, vs2, d2, ds2, p2, q2, rfl, rfl, rfl, h2, r2⟩ := trodAll_cons r1
  obtain ⟨rfl, rfl, rfl⟩ := trodAll_nil r2
  obtain rfl : args = #[v0, v1, v2] := by cases args; simp_all
  obtain ⟨rfl, rfl⟩ := trodVars_none hV
  have k0 := h0
  have lt0 : ∀ x ∈ p0, x.block < W.heap.size := by obtain ⟨m, hm⟩ := k0; exact DataW.trod_lt m _ _ _ hm
  have k1 := h1
  have lt1 : ∀ x ∈ p1, x.block < W.heap.size := by obtain ⟨m, hm⟩ := k1; exact DataW.trod_lt m _ _ _ hm
  have k2 := h2
  have lt2 : ∀ x ∈ p2, x.block < W.heap.size := by obtain ⟨m, hm⟩ := k2; exact DataW.trod_lt m _ _ _ hm
  obtain ⟨a0, rfl, rfl, rfl, w0⟩ := open_int Tryd.underlying2 (hval 0 2 v0 rfl rfl) h0
  obtain ⟨a1, rfl, rfl, rfl, w1⟩ := open_int Tryd.underlying2 (hval 1 2 v1 rfl rfl) h1
  obtain ⟨a2, b2, rfl, w2, x2⟩ := Op.open_two Tryd.underlying57 Tryd.underlying56 (by kernel_rfl) (by kernel_rfl) h2
  clear hA0
  refine (walk a0 w0 a1 w1 a2 b2 w2 x2 (table0 hL)).mono fun e W' ⟨he, bel⟩ => ?_
  subst he
  exact ⟨_, rfl, _, _, _, [], _, [], hW', trodAll_mk1 (shut_bool Tryd.underlying4 _), (trodAll_cons_mk (Below.trod laidOut (by kernel_rfl) (of_decide_eq_true (by kernel_rfl)) k0 bel lt0) (trodAll_cons_mk (Below.trod laidOut (by kernel_rfl) (of_decide_eq_true (by kernel_rfl)) k1 bel lt1) (trodAll_cons_mk (Below.trod laidOut (by kernel_rfl) (of_decide_eq_true (by kernel_rfl)) k2 bel lt2) trodAll_mk0))), rfl, bel.frame _, fun h => by cases h⟩

noncomputable def laidHeap (os : Os) : Array Obj :=
  (World.holding Tryd.prog os ⟨#[], #[], []⟩).heap.modify 1 (fun
      | .cells _ t frozen => .cells #[.int .u64 9223372036854775808, .int .u64 18446744073709551615] t frozen
      | o => o)
noncomputable def laidWorld (os : Os) : World :=
  { World.holding Tryd.prog os ⟨#[], #[], []⟩ with heap := laidHeap os }
theorem laid_met (os : Os) : laidMet Tryd.prog Rows.circleCornersRow.laid ((laidWorld os).forCall (fun _ _ => 0) ⟨#[], #[.int .i64 0, .int .i64 0, .agg #[.int .u32 0, .int .u32 0]], []⟩).memory :=
  laidMet_of_run' 8 (by kernel_rfl) (by kernel_rfl)
theorem reads (os : Os) {H : Type} (enc : TypeId × Value → H) : ∃ places, DataW.whole enc Tryd.prog ((laidWorld os).forCall (fun _ _ => 0) ⟨#[], #[.int .i64 0, .int .i64 0, .agg #[.int .u32 0, .int .u32 0]], []⟩).memory Tryd.f13.params.toList Rows.circleCornersSpec.vars false (#[.int .i64 0, .int .i64 0, .agg #[.int .u32 0, .int .u32 0]] : Array Value).toList 8 = some ([.lit (.int .i64 0), .lit (.int .i64 0), .agg [.lit (.int .u32 0), .lit (.int .u32 0)]], [], places) :=
  ⟨[], by kernel_rfl⟩

set_option maxRecDepth 100000 in
theorem lifted (os : Os) (started : os.Started) (H : Type) (enc : TypeId × Value → H) (F : Stop.Interp) :
    ReturnsInHanded {} Tryd.checked os 13 .any ((OpenSpec.ofChange Rows.circleCornersSpec).preRow enc Tryd.prog Tryd.f13 Rows.circleCornersRow.domain false Rows.circleCornersRow.laid) (((OpenSpec.ofChange Rows.circleCornersSpec).at F).post enc Tryd.prog Tryd.f13 false true false false) := by
  obtain ⟨places, hx⟩ := reads os enc
  refine returnsInHanded_of_row (C := Tryd.checked) (s := OpenSpec.ofChange Rows.circleCornersSpec) own started (by kernel_rfl) Tryd.func13
    (witness_row_at (enc := enc) (C := Tryd.checked) false (laidWorld os) #[.int .i64 0, .int .i64 0, .agg #[.int .u32 0, .int .u32 0]] rfl (by kernel_rfl) (by kernel_rfl) (by kernel_rfl)
      (OpenSpec.preRow_of_cond 8 hx (by kernel_rfl) (fun k hk => by cases hk) (by kernel_rfl) (laid_met os))) ?_
  intro W base args ds gs before hval hW _ _ _ hL _ _
  exact contract H enc W base args ds gs before hval hW hL

theorem said : Rows.CircleCornersSaid :=
  OpenClaim.holds_of_cond 13 Tryd.f13 rfl rfl rfl rfl rfl rfl rfl ⟨rfl, rfl, rfl, rfl, rfl⟩ rfl rfl rfl rfl rfl (by kernel_rfl) Tryd.func13 (by kernel_rfl)
    (of_decide_eq_true (by kernel_rfl)) (by unfold Func.isWrapper; first | (rw [if_pos (by decide +kernel)]; kernel_rfl) | (rw [if_neg (by decide +kernel)]; exact ⟨rfl, rfl⟩))
    (fun os started H enc _ F => by rw [OpenClaim.pre_eq_preRow]; exact lifted os started H enc F)

theorem plain (f : FuncId) (fn : Func) (hf : Tryd.pinned.checked.prog.funcNamed "geofence/geofencelaw07.CircleCorners" = some f) (hfn : Tryd.pinned.checked.prog.funcs[f]? = some fn) :
    false = Tryd.pinned.checked.prog.looks [] ∧ ∀ (j : Nat) t, fn.params[j]? = some t → Tryd.pinned.checked.prog.wantsStandIn t = false := by
  obtain rfl : f = 13 := Option.some.inj ((show Tryd.prog.funcNamed "geofence/geofencelaw07.CircleCorners" = some 13 by kernel_rfl).symm.trans hf) |>.symm
  obtain rfl : fn = Tryd.f13 := (Option.some.inj (Tryd.func13.symm.trans hfn)).symm
  refine ⟨by kernel_rfl, fun j t ht => ?_⟩
  rw [Tryd.params13] at ht
  have hm := Array.mem_of_getElem? ht
  simp at hm
  rcases hm with rfl | rfl
  · exact (show Tryd.prog.wantsStandIn 2 = false by kernel_rfl)
  · exact (show Tryd.prog.wantsStandIn 57 = false by kernel_rfl)

/-- THE CARD -/
theorem card : Rows.CircleCornersCardSaid :=
  Claim7.holds_tied_plain_at .later [] _ _ _ _ said (fun _ h => by cases h) (by kernel_rfl) (fun _ h => by cases h) circleCorners_row_tie rfl ⟨rfl, rfl⟩ (by kernel_rfl) rfl plain (by kernel_rfl)
#print axioms card
end Go.Proofs.YtfjanlfbnliokaaDoor.circleCorners
