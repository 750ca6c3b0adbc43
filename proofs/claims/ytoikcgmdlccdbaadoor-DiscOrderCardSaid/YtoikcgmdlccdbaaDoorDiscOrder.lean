/- DiscOrder: for every input the law returns true, and each argument reads afterwards as it read before; the package variable that the row lists holds what it lists. -/
import Derived.Test.YtoikcgmdlccdbaaDoorCards
import Derived.Test.YtoikcgmdlccdbaaDoorTie
import Derived.Test.YtoikcgmdlccdbaaDoorLaw15
import Derived.Test.YtoikcgmdlccdbaaDoorPts
import Derived.Test.YtoikcgmdlccdbaaDoorMain
import Derived.Test.YtoikcgmdlccdbaaDoorOpenPt
import Derived.WalkKit
import Derived.ProofKit
import Derived.OpenShut
import Derived.Below
import Derived.Deep.DeepHandedRow
import Derived.Lib.LaidTab
namespace Go.Proofs.YtoikcgmdlccdbaaDoor.discOrder
open Go.ChangeShapes Go.WideShapes Go.ChangeAt Go.RowKit Wd
set_option linter.unusedVariables false
set_option linter.unusedSimpArgs false

theorem own : ownKnob Tryd.prog.godebug = none := by kernel_rfl
theorem laidOut : laidOutB Tryd.prog = true := by kernel_rfl

set_option maxHeartbeats 4000000 in
theorem walk {w : World} (a0_0 a0_1 a0_2 a0_3 a0_4 a0_5 : Int) (w0_0 : (Lit.int .i64 a0_0).wf = true) (w0_1 : (Lit.int .i64 a0_1).wf = true) (w0_2 : (Lit.int .i64 a0_2).wf = true) (w0_3 : (Lit.int .i64 a0_3).wf = true) (w0_4 : (Lit.int .i64 a0_4).wf = true) (w0_5 : (Lit.int .i64 a0_5).wf = true) (a1 b1 : Int) (w1 : (Lit.int .i64 a1).wf = true) (x1 : (Lit.int .i64 b1).wf = true) (hT : TabM w) :
    Calls Tryd.prog 10 #[.agg #[.int .i64 a0_0, .int .i64 a0_1, .int .i64 a0_2, .int .i64 a0_3, .int .i64 a0_4, .int .i64 a0_5], .agg #[.int .i64 a1, .int .i64 b1]] w fun e w' => e = .returned (.bool true) ∧ Below w.heap.size w w' := by
  have HB0 := Lib.hid (Below.refl w.heap.size w)
  have i0_0 := isI_of_wf w0_0
  have i0_1 := isI_of_wf w0_1
  have i0_2 := isI_of_wf w0_2
  have i0_3 := isI_of_wf w0_3
  have i0_4 := isI_of_wf w0_4
  have i0_5 := isI_of_wf w0_5
  have ia1 := isI_of_wf w1
  have ib1 := isI_of_wf x1
  have FT := Lib.hid hT; clear hT
  have hv1 : decide (det a0_2 a0_3 a0_0 a0_1 a0_4 a0_5 = 0) = decide (det a0_0 a0_1 a0_2 a0_3 a0_4 a0_5 = 0) := by rw [decide_eq_decide, det_swap']; omega
  have hv2 : decide (det a0_2 a0_3 a0_4 a0_5 a0_0 a0_1 = 0) = decide (det a0_0 a0_1 a0_2 a0_3 a0_4 a0_5 = 0) := by rw [← det_rot']
  have HV1 := Lib.hid hv1; have HV2 := Lib.hid hv2; have HS1 := Lib.hid (side_swap a0_0 a0_1 a0_2 a0_3 a0_4 a0_5 a1 b1); have HS2 := Lib.hid (side_rot a0_2 a0_3 a0_4 a0_5 a0_0 a0_1 a1 b1).symm; clear hv1 hv2
  go_enter Tryd.func10, Tryd.ntmps10
  go_wp2_with fail
  have B : Below w.heap.size w (((((w.alloc (.cells #[.int .i64 a0_0, .int .i64 a0_1, .int .i64 a0_2, .int .i64 a0_3, .int .i64 a0_4, .int .i64 a0_5] 41)).alloc (.cells #[.int .i64 a1, .int .i64 b1] 28)).alloc (.cells #[.int .i64 a0_0, .int .i64 a0_1, .int .i64 a0_2, .int .i64 a0_3, .int .i64 a0_4, .int .i64 a0_5] 28)).alloc (.cells #[.int .i64 a0_2, .int .i64 a0_3, .int .i64 a0_0, .int .i64 a0_1, .int .i64 a0_4, .int .i64 a0_5] 28)).alloc (.cells #[.int .i64 a0_2, .int .i64 a0_3, .int .i64 a0_4, .int .i64 a0_5, .int .i64 a0_0, .int .i64 a0_1] 28)) := (((((HB0.out.alloc HB0.out.size _).alloc (HB0.out.alloc HB0.out.size _).size _).alloc ((HB0.out.alloc HB0.out.size _).alloc (HB0.out.alloc HB0.out.size _).size _).size _).alloc (((HB0.out.alloc HB0.out.size _).alloc (HB0.out.alloc HB0.out.size _).size _).alloc ((HB0.out.alloc HB0.out.size _).alloc (HB0.out.alloc HB0.out.size _).size _).size _).size _).alloc ((((HB0.out.alloc HB0.out.size _).alloc (HB0.out.alloc HB0.out.size _).size _).alloc ((HB0.out.alloc HB0.out.size _).alloc (HB0.out.alloc HB0.out.size _).size _).size _).alloc (((HB0.out.alloc HB0.out.size _).alloc (HB0.out.alloc HB0.out.size _).size _).alloc ((HB0.out.alloc HB0.out.size _).alloc (HB0.out.alloc HB0.out.size _).size _).size _).size _).size _)
  have C : Below w.heap.size w (((((w.alloc (.cells #[.int .i64 a0_0, .int .i64 a0_1, .int .i64 a0_2, .int .i64 a0_3, .int .i64 a0_4, .int .i64 a0_5] 41)).alloc (.cells #[.int .i64 a1, .int .i64 b1] 28)).alloc (.cells #[.int .i64 a0_0, .int .i64 a0_1, .int .i64 a0_2, .int .i64 a0_3, .int .i64 a0_4, .int .i64 a0_5] 28)).alloc (.cells #[.int .i64 a0_2, .int .i64 a0_3, .int .i64 a0_0, .int .i64 a0_1, .int .i64 a0_4, .int .i64 a0_5] 28)).alloc (.cells #[.int .i64 a0_2, .int .i64 a0_3, .int .i64 a0_4, .int .i64 a0_5, .int .i64 a0_0, .int .i64 a0_1] 28)) := ((((((Below.refl w.heap.size w).alloc (Nat.le_refl _) _).alloc (by simp; try omega) _).alloc (by simp; try omega) _).alloc (by simp; try omega) _).alloc (by simp; try omega) _)
  have X0 : Bx (((((w.alloc (.cells #[.int .i64 a0_0, .int .i64 a0_1, .int .i64 a0_2, .int .i64 a0_3, .int .i64 a0_4, .int .i64 a0_5] 41)).alloc (.cells #[.int .i64 a1, .int .i64 b1] 28)).alloc (.cells #[.int .i64 a0_0, .int .i64 a0_1, .int .i64 a0_2, .int .i64 a0_3, .int .i64 a0_4, .int .i64 a0_5] 28)).alloc (.cells #[.int .i64 a0_2, .int .i64 a0_3, .int .i64 a0_0, .int .i64 a0_1, .int .i64 a0_4, .int .i64 a0_5] 28)).alloc (.cells #[.int .i64 a0_2, .int .i64 a0_3, .int .i64 a0_4, .int .i64 a0_5, .int .i64 a0_0, .int .i64 a0_1] 28)) (w.heap.size) #[.int .i64 a0_0, .int .i64 a0_1, .int .i64 a0_2, .int .i64 a0_3, .int .i64 a0_4, .int .i64 a0_5] 41 := by simpa using (((((Bx.new w #[.int .i64 a0_0, .int .i64 a0_1, .int .i64 a0_2, .int .i64 a0_3, .int .i64 a0_4, .int .i64 a0_5] 41).alloc _).alloc _).alloc _).alloc _)
  have X1 : Bx (((((w.alloc (.cells #[.int .i64 a0_0, .int .i64 a0_1, .int .i64 a0_2, .int .i64 a0_3, .int .i64 a0_4, .int .i64 a0_5] 41)).alloc (.cells #[.int .i64 a1, .int .i64 b1] 28)).alloc (.cells #[.int .i64 a0_0, .int .i64 a0_1, .int .i64 a0_2, .int .i64 a0_3, .int .i64 a0_4, .int .i64 a0_5] 28)).alloc (.cells #[.int .i64 a0_2, .int .i64 a0_3, .int .i64 a0_0, .int .i64 a0_1, .int .i64 a0_4, .int .i64 a0_5] 28)).alloc (.cells #[.int .i64 a0_2, .int .i64 a0_3, .int .i64 a0_4, .int .i64 a0_5, .int .i64 a0_0, .int .i64 a0_1] 28)) (w.heap.size + 1) #[.int .i64 a1, .int .i64 b1] 28 := by simpa using ((((Bx.new (w.alloc (.cells #[.int .i64 a0_0, .int .i64 a0_1, .int .i64 a0_2, .int .i64 a0_3, .int .i64 a0_4, .int .i64 a0_5] 41)) #[.int .i64 a1, .int .i64 b1] 28).alloc _).alloc _).alloc _)
  have X2 : Bx (((((w.alloc (.cells #[.int .i64 a0_0, .int .i64 a0_1, .int .i64 a0_2, .int .i64 a0_3, .int .i64 a0_4, .int .i64 a0_5] 41)).alloc (.cells #[.int .i64 a1, .int .i64 b1] 28)).alloc (.cells #[.int .i64 a0_0, .int .i64 a0_1, .int .i64 a0_2, .int .i64 a0_3, .int .i64 a0_4, .int .i64 a0_5] 28)).alloc (.cells #[.int .i64 a0_2, .int .i64 a0_3, .int .i64 a0_0, .int .i64 a0_1, .int .i64 a0_4, .int .i64 a0_5] 28)).alloc (.cells #[.int .i64 a0_2, .int .i64 a0_3, .int .i64 a0_4, .int .i64 a0_5, .int .i64 a0_0, .int .i64 a0_1] 28)) (w.heap.size + 1 + 1) #[.int .i64 a0_0, .int .i64 a0_1, .int .i64 a0_2, .int .i64 a0_3, .int .i64 a0_4, .int .i64 a0_5] 28 := by simpa using (((Bx.new ((w.alloc (.cells #[.int .i64 a0_0, .int .i64 a0_1, .int .i64 a0_2, .int .i64 a0_3, .int .i64 a0_4, .int .i64 a0_5] 41)).alloc (.cells #[.int .i64 a1, .int .i64 b1] 28)) #[.int .i64 a0_0, .int .i64 a0_1, .int .i64 a0_2, .int .i64 a0_3, .int .i64 a0_4, .int .i64 a0_5] 28).alloc _).alloc _)
  have X3 : Bx (((((w.alloc (.cells #[.int .i64 a0_0, .int .i64 a0_1, .int .i64 a0_2, .int .i64 a0_3, .int .i64 a0_4, .int .i64 a0_5] 41)).alloc (.cells #[.int .i64 a1, .int .i64 b1] 28)).alloc (.cells #[.int .i64 a0_0, .int .i64 a0_1, .int .i64 a0_2, .int .i64 a0_3, .int .i64 a0_4, .int .i64 a0_5] 28)).alloc (.cells #[.int .i64 a0_2, .int .i64 a0_3, .int .i64 a0_0, .int .i64 a0_1, .int .i64 a0_4, .int .i64 a0_5] 28)).alloc (.cells #[.int .i64 a0_2, .int .i64 a0_3, .int .i64 a0_4, .int .i64 a0_5, .int .i64 a0_0, .int .i64 a0_1] 28)) (w.heap.size + 1 + 1 + 1) #[.int .i64 a0_2, .int .i64 a0_3, .int .i64 a0_0, .int .i64 a0_1, .int .i64 a0_4, .int .i64 a0_5] 28 := by simpa using ((Bx.new (((w.alloc (.cells #[.int .i64 a0_0, .int .i64 a0_1, .int .i64 a0_2, .int .i64 a0_3, .int .i64 a0_4, .int .i64 a0_5] 41)).alloc (.cells #[.int .i64 a1, .int .i64 b1] 28)).alloc (.cells #[.int .i64 a0_0, .int .i64 a0_1, .int .i64 a0_2, .int .i64 a0_3, .int .i64 a0_4, .int .i64 a0_5] 28)) #[.int .i64 a0_2, .int .i64 a0_3, .int .i64 a0_0, .int .i64 a0_1, .int .i64 a0_4, .int .i64 a0_5] 28).alloc _)
  have X4 : Bx (((((w.alloc (.cells #[.int .i64 a0_0, .int .i64 a0_1, .int .i64 a0_2, .int .i64 a0_3, .int .i64 a0_4, .int .i64 a0_5] 41)).alloc (.cells #[.int .i64 a1, .int .i64 b1] 28)).alloc (.cells #[.int .i64 a0_0, .int .i64 a0_1, .int .i64 a0_2, .int .i64 a0_3, .int .i64 a0_4, .int .i64 a0_5] 28)).alloc (.cells #[.int .i64 a0_2, .int .i64 a0_3, .int .i64 a0_0, .int .i64 a0_1, .int .i64 a0_4, .int .i64 a0_5] 28)).alloc (.cells #[.int .i64 a0_2, .int .i64 a0_3, .int .i64 a0_4, .int .i64 a0_5, .int .i64 a0_0, .int .i64 a0_1] 28)) (w.heap.size + 1 + 1 + 1 + 1) #[.int .i64 a0_2, .int .i64 a0_3, .int .i64 a0_4, .int .i64 a0_5, .int .i64 a0_0, .int .i64 a0_1] 28 := by simpa using (Bx.new ((((w.alloc (.cells #[.int .i64 a0_0, .int .i64 a0_1, .int .i64 a0_2, .int .i64 a0_3, .int .i64 a0_4, .int .i64 a0_5] 41)).alloc (.cells #[.int .i64 a1, .int .i64 b1] 28)).alloc (.cells #[.int .i64 a0_0, .int .i64 a0_1, .int .i64 a0_2, .int .i64 a0_3, .int .i64 a0_4, .int .i64 a0_5] 28)).alloc (.cells #[.int .i64 a0_2, .int .i64 a0_3, .int .i64 a0_0, .int .i64 a0_1, .int .i64 a0_4, .int .i64 a0_5] 28)) #[.int .i64 a0_2, .int .i64 a0_3, .int .i64 a0_4, .int .i64 a0_5, .int .i64 a0_0, .int .i64 a0_1] 28)
  have FT_1 := Lib.hid (FT.out.below C (Nat.le_refl _))
  have HB1 := Lib.hid B
  have FQ_1 := Lib.hid X0
  have FP_1 := Lib.hid X1
  have FA_1 := Lib.hid X2
  have FB_1 := Lib.hid X3
  have FC_1 := Lib.hid X4
  clear B C X0 X1 X2 X3 X4 HB0 FT
  generalize (((((w.alloc (.cells #[.int .i64 a0_0, .int .i64 a0_1, .int .i64 a0_2, .int .i64 a0_3, .int .i64 a0_4, .int .i64 a0_5] 41)).alloc (.cells #[.int .i64 a1, .int .i64 b1] 28)).alloc (.cells #[.int .i64 a0_0, .int .i64 a0_1, .int .i64 a0_2, .int .i64 a0_3, .int .i64 a0_4, .int .i64 a0_5] 28)).alloc (.cells #[.int .i64 a0_2, .int .i64 a0_3, .int .i64 a0_0, .int .i64 a0_1, .int .i64 a0_4, .int .i64 a0_5] 28)).alloc (.cells #[.int .i64 a0_2, .int .i64 a0_3, .int .i64 a0_4, .int .i64 a0_5, .int .i64 a0_0, .int .i64 a0_1] 28)) = w1 at *
  have RB1 := Lib.hid (below_drew0 w1)
  have QF1 := Lib.hid (show ∀ w', Below w1.heap.size w1 w' → w'.cell? ⟨w.heap.size + 1, 0, none⟩ = some (.int .i64 a1) ∧ w'.cell? ⟨w.heap.size + 1, 1, none⟩ = some (.int .i64 b1) from fun w' hb => ⟨(FP_1.out.below hb (Nat.le_refl _)).cell 0 (v := .int .i64 a1) rfl, (FP_1.out.below hb (Nat.le_refl _)).cell 1 (v := .int .i64 b1) rfl⟩)
  refine wp_region_held_drew (S := fun w' => w'.cell? ⟨w.heap.size + 1, 0, none⟩ = some (.int .i64 a1) ∧ w'.cell? ⟨w.heap.size + 1, 1, none⟩ = some (.int .i64 b1)) (by kernel_rfl) (QF1.out _ RB1.out) (fun hHeld => ?_)
  refine wpAnyH_take (i := 0) (v := ?_) (by simp only [List.getElem?_toArray, List.getElem?_cons_succ, List.getElem?_cons_zero]; rfl) (by kernel_rfl) (by kernel_rfl) (by kernel_rfl) (by intro _ _ _ h; exact h) (Or.inl ⟨by rfl, ?_⟩) hHeld ?_
  rotate_left 1
  · intro w hSw; (try dsimp only at hSw); go_simp; try with_reducible rfl
  try simp only [Act.put, List.setIfInBounds_toArray, List.set_cons_zero, List.set_cons_succ]
  refine wpAnyH_take (i := 2) (v := ?_) (by simp only [List.getElem?_toArray, List.getElem?_cons_succ, List.getElem?_cons_zero]; rfl) (by kernel_rfl) (by kernel_rfl) (by kernel_rfl) (by intro _ _ _ h; exact h) (Or.inl ⟨by rfl, ?_⟩) hHeld ?_
  rotate_left 1
  · intro w hSw; (try dsimp only at hSw); go_simp; try with_reducible rfl
  try simp only [Act.put, List.setIfInBounds_toArray, List.set_cons_zero, List.set_cons_succ]
  refine wpAnyH_take (i := 3) (v := ?_) (by simp only [List.getElem?_toArray, List.getElem?_cons_succ, List.getElem?_cons_zero]; rfl) (by kernel_rfl) (by kernel_rfl) (by kernel_rfl) (by intro _ _ _ h; exact h) (Or.inl ⟨by rfl, ?_⟩) hHeld ?_
  rotate_left 1
  · intro w hSw; (try dsimp only at hSw); go_simp; try with_reducible rfl
  try simp only [Act.put, List.setIfInBounds_toArray, List.set_cons_zero, List.set_cons_succ]
  refine wpAnyH_ready (rs := [1]) (by kernel_rfl) (by simp) ?_
  refine AllReadyH.cons (by simp only [List.getElem?_toArray, List.getElem?_cons_succ, List.getElem?_cons_zero]; rfl) (fun K hK => ?_) AllReadyH.nil
  go_simp
  refine (disc_Valid3 _ 3 a0_0 a0_1 a0_2 a0_3 a0_4 a0_5 (show P3 a0_0 a0_1 a0_2 a0_3 a0_4 a0_5 from ⟨i0_0, i0_1, i0_2, i0_3, i0_4, i0_5⟩) _ (FT_1.out.below RB1.out (Nat.le_refl _)) (FA_1.out.below RB1.out (Nat.le_refl _)).t3).mono ?_
  rintro e w2 ⟨rfl, B⟩
  have RB2 := Lib.hid (RB1.out.trans (B.mono RB1.out.size))
  clear B 
  go_wp2_with fail
  refine hK.out _ _ (QF1.out _ RB2.out) (fun hHeld2 => ?_)
  clear hK K hHeld; have hHeld := hHeld2; clear hHeld2
  try simp only [Act.put, List.setIfInBounds_toArray, List.set_cons_zero, List.set_cons_succ]
  refine wpAnyH_ready (rs := [4]) (by kernel_rfl) (by simp) ?_
  refine AllReadyH.cons (by simp only [List.getElem?_toArray, List.getElem?_cons_succ, List.getElem?_cons_zero]; rfl) (fun K hK => ?_) AllReadyH.nil
  go_simp
  refine (disc_Locate3 _ 3 a0_0 a0_1 a0_2 a0_3 a0_4 a0_5 a1 b1 (show P4 a0_0 a0_1 a0_2 a0_3 a0_4 a0_5 a1 b1 from ⟨i0_0, i0_1, i0_2, i0_3, i0_4, i0_5, ia1, ib1⟩) _ (FT_1.out.below RB2.out (Nat.le_refl _)) (FA_1.out.below RB2.out (Nat.le_refl _)).t3).mono ?_
  rintro e w3 ⟨rfl, B⟩
  have RB3 := Lib.hid (RB2.out.trans (B.mono RB2.out.size))
  clear B 
  go_wp2_with fail
  refine hK.out _ _ (QF1.out _ RB3.out) (fun hHeld3 => ?_)
  clear hK K hHeld; have hHeld := hHeld3; clear hHeld3
  try simp only [Act.put, List.setIfInBounds_toArray, List.set_cons_zero, List.set_cons_succ]
  refine wpAnyH_take (i := 5) (v := ?_) (by simp only [List.getElem?_toArray, List.getElem?_cons_succ, List.getElem?_cons_zero]; rfl) (by kernel_rfl) (by kernel_rfl) (by kernel_rfl) (by intro _ _ _ h; exact h) (Or.inl ⟨by rfl, ?_⟩) hHeld ?_
  rotate_left 1
  · intro w hSw; (try dsimp only at hSw); go_simp; try with_reducible rfl
  try simp only [Act.put, List.setIfInBounds_toArray, List.set_cons_zero, List.set_cons_succ]
  refine wpAnyH_take (i := 6) (v := ?_) (by simp only [List.getElem?_toArray, List.getElem?_cons_succ, List.getElem?_cons_zero]; rfl) (by kernel_rfl) (by kernel_rfl) (by kernel_rfl) (by intro _ _ _ h; exact h) (Or.inl ⟨by rfl, ?_⟩) hHeld ?_
  rotate_left 1
  · intro w hSw; (try dsimp only at hSw); go_simp; try with_reducible rfl
  try simp only [Act.put, List.setIfInBounds_toArray, List.set_cons_zero, List.set_cons_succ]
  refine wpAnyH_done (by kernel_rfl) ?_ _
  have FT_3 := Lib.hid (FT_1.out.below RB3.out (Nat.le_refl _))
  have FQ_3 := Lib.hid (FQ_1.out.below RB3.out (Nat.le_refl _))
  have FP_3 := Lib.hid (FP_1.out.below RB3.out (Nat.le_refl _))
  have FA_3 := Lib.hid (FA_1.out.below RB3.out (Nat.le_refl _))
  have FB_3 := Lib.hid (FB_1.out.below RB3.out (Nat.le_refl _))
  have FC_3 := Lib.hid (FC_1.out.below RB3.out (Nat.le_refl _))
  have HB3 := Lib.hid (HB1.out.trans (RB3.out.mono HB1.out.size))
  clear hHeld HB1 FT_1 FQ_1 FP_1 FA_1 FB_1 FC_1
  have vP0 := FP_3.out.cell 0 (v := .int .i64 a1) rfl
  have vP1 := FP_3.out.cell 1 (v := .int .i64 b1) rfl
  go_wp2_with fail
  refine (alive15 _ FT_3.out).mono ?_
  rintro e w4 ⟨rfl, B⟩
  clear vP0 vP1
  have HB4 := Lib.hid (HB3.out.trans (B.mono HB3.out.size))
  have FT_4 := Lib.hid (FT_3.out.below B (Nat.le_refl _))
  have FQ_4 := Lib.hid (FQ_3.out.below B (Nat.le_refl _))
  have FP_4 := Lib.hid (FP_3.out.below B (Nat.le_refl _))
  have FA_4 := Lib.hid (FA_3.out.below B (Nat.le_refl _))
  have FB_4 := Lib.hid (FB_3.out.below B (Nat.le_refl _))
  have FC_4 := Lib.hid (FC_3.out.below B (Nat.le_refl _))
  clear B  HB3 FT_3 FQ_3 FP_3 FA_3 FB_3 FC_3
  have vP0 := FP_4.out.cell 0 (v := .int .i64 a1) rfl
  have vP1 := FP_4.out.cell 1 (v := .int .i64 b1) rfl
  go_wp2_with fail
  refine (disc_Valid3 _ 3 a0_2 a0_3 a0_0 a0_1 a0_4 a0_5 (show P3 a0_2 a0_3 a0_0 a0_1 a0_4 a0_5 from ⟨i0_2, i0_3, i0_0, i0_1, i0_4, i0_5⟩) _ FT_4.out FB_4.out.t3).mono ?_
  rintro e w5 ⟨rfl, B⟩
  clear vP0 vP1
  have HB5 := Lib.hid (HB4.out.trans (B.mono HB4.out.size))
  have FT_5 := Lib.hid (FT_4.out.below B (Nat.le_refl _))
  have FQ_5 := Lib.hid (FQ_4.out.below B (Nat.le_refl _))
  have FP_5 := Lib.hid (FP_4.out.below B (Nat.le_refl _))
  have FA_5 := Lib.hid (FA_4.out.below B (Nat.le_refl _))
  have FB_5 := Lib.hid (FB_4.out.below B (Nat.le_refl _))
  have FC_5 := Lib.hid (FC_4.out.below B (Nat.le_refl _))
  clear B  HB4 FT_4 FQ_4 FP_4 FA_4 FB_4 FC_4
  rw [HV1.out]
  have vP0 := FP_5.out.cell 0 (v := .int .i64 a1) rfl
  have vP1 := FP_5.out.cell 1 (v := .int .i64 b1) rfl
  go_wp2_with fail
  refine (disc_Valid3 _ 3 a0_2 a0_3 a0_4 a0_5 a0_0 a0_1 (show P3 a0_2 a0_3 a0_4 a0_5 a0_0 a0_1 from ⟨i0_2, i0_3, i0_4, i0_5, i0_0, i0_1⟩) _ FT_5.out FC_5.out.t3).mono ?_
  rintro e w6 ⟨rfl, B⟩
  clear vP0 vP1
  have HB6 := Lib.hid (HB5.out.trans (B.mono HB5.out.size))
  have FT_6 := Lib.hid (FT_5.out.below B (Nat.le_refl _))
  have FQ_6 := Lib.hid (FQ_5.out.below B (Nat.le_refl _))
  have FP_6 := Lib.hid (FP_5.out.below B (Nat.le_refl _))
  have FA_6 := Lib.hid (FA_5.out.below B (Nat.le_refl _))
  have FB_6 := Lib.hid (FB_5.out.below B (Nat.le_refl _))
  have FC_6 := Lib.hid (FC_5.out.below B (Nat.le_refl _))
  clear B  HB5 FT_5 FQ_5 FP_5 FA_5 FB_5 FC_5
  rw [HV2.out]
  have vP0 := FP_6.out.cell 0 (v := .int .i64 a1) rfl
  have vP1 := FP_6.out.cell 1 (v := .int .i64 b1) rfl
  go_wp2_with fail
  refine (disc_Locate3 _ 3 a0_2 a0_3 a0_0 a0_1 a0_4 a0_5 a1 b1 (show P4 a0_2 a0_3 a0_0 a0_1 a0_4 a0_5 a1 b1 from ⟨i0_2, i0_3, i0_0, i0_1, i0_4, i0_5, ia1, ib1⟩) _ FT_6.out FB_6.out.t3).mono ?_
  rintro e w7 ⟨rfl, B⟩
  clear vP0 vP1
  have HB7 := Lib.hid (HB6.out.trans (B.mono HB6.out.size))
  have FT_7 := Lib.hid (FT_6.out.below B (Nat.le_refl _))
  have FQ_7 := Lib.hid (FQ_6.out.below B (Nat.le_refl _))
  have FP_7 := Lib.hid (FP_6.out.below B (Nat.le_refl _))
  have FA_7 := Lib.hid (FA_6.out.below B (Nat.le_refl _))
  have FB_7 := Lib.hid (FB_6.out.below B (Nat.le_refl _))
  have FC_7 := Lib.hid (FC_6.out.below B (Nat.le_refl _))
  clear B  HB6 FT_6 FQ_6 FP_6 FA_6 FB_6 FC_6
  rw [HS1.out]
  have vP0 := FP_7.out.cell 0 (v := .int .i64 a1) rfl
  have vP1 := FP_7.out.cell 1 (v := .int .i64 b1) rfl
  go_wp2_with fail
  refine (disc_Locate3 _ 3 a0_2 a0_3 a0_4 a0_5 a0_0 a0_1 a1 b1 (show P4 a0_2 a0_3 a0_4 a0_5 a0_0 a0_1 a1 b1 from ⟨i0_2, i0_3, i0_4, i0_5, i0_0, i0_1, ia1, ib1⟩) _ FT_7.out FC_7.out.t3).mono ?_
  rintro e w8 ⟨rfl, B⟩
  clear vP0 vP1
  have HB8 := Lib.hid (HB7.out.trans (B.mono HB7.out.size))
  have FT_8 := Lib.hid (FT_7.out.below B (Nat.le_refl _))
  have FQ_8 := Lib.hid (FQ_7.out.below B (Nat.le_refl _))
  have FP_8 := Lib.hid (FP_7.out.below B (Nat.le_refl _))
  have FA_8 := Lib.hid (FA_7.out.below B (Nat.le_refl _))
  have FB_8 := Lib.hid (FB_7.out.below B (Nat.le_refl _))
  have FC_8 := Lib.hid (FC_7.out.below B (Nat.le_refl _))
  clear B  HB7 FT_7 FQ_7 FP_7 FA_7 FB_7 FC_7
  rw [HS2.out]
  have vP0 := FP_8.out.cell 0 (v := .int .i64 a1) rfl
  have vP1 := FP_8.out.cell 1 (v := .int .i64 b1) rfl
  go_wp2_with fail
  go_ret
  exact ⟨rfl, HB8.out⟩

theorem gTab0 : Tryd.prog.globalNamed "geofence/mask.words" = some 0 := by kernel_rfl
theorem gTabType0 : (Tryd.prog.globals[0]?).map (·.type) = some 93 := by kernel_rfl
theorem cellsT0 : Tryd.prog.cellsOf 93 = 2 := by kernel_rfl
theorem cellsE0 : Tryd.prog.cellsOf 23 = 1 := by kernel_rfl
theorem tableIs0 {W : World} (h : laidMetH Tryd.prog Rows.discOrderRow.laid W) : Lib.TabIs Tryd.prog W "geofence/mask.words" .u64 [9223372036854775808, 18446744073709551615] :=
  Lib.tabIs_of_head (rest := _) gTab0 gTabType0 Tryd.underlying93 Tryd.underlying23 cellsE0 cellsT0 h
theorem table0 {W : World} (h : laidMetH Tryd.prog Rows.discOrderRow.laid W) : TabM W := ⟨(tableIs0 h).cell gTab0 0 (by decide), (tableIs0 h).cell gTab0 1 (by decide)⟩

set_option maxRecDepth 100000 in
theorem contract (H : Type) (enc : TypeId × Value → H) (W : World) (base : Nat) (args : Array Value) (ds gs : List (DataW H)) (before : List MemPlace)
    (hval : ∀ (j : Nat) t v, Tryd.f10.params[j]? = some t → args[j]? = some v → Value.okWide Tryd.prog W .any base t v)
    (hW : DataW.Whole enc Tryd.prog Tryd.f10.params.toList Rows.discOrderSpec.vars false W args.toList ds gs before) (hL : laidMetH Tryd.prog Rows.discOrderRow.laid W) :
    Calls Tryd.prog 10 args W fun e W' => ∃ v, e = .returned v ∧ Rows.discOrderSpec.post enc Tryd.prog Tryd.f10 false true false false W args v W' := by
  have hW' := hW
  obtain ⟨p, q, hA0, hV, rfl, hfz, hnd⟩ := hW
  have hA : DataW.TrodAll enc Tryd.prog W 0 (fun _ => true) true Tryd.f10.params.toList args.toList ds p := hA0
  rw [Tryd.params10] at hA hval
  obtain ⟨v0, vs0, d0, ds0, p0, q0, hargs, rfl, rfl, h0, r0⟩ := trodAll_cons hA
  obtain ⟨v1, vs1, d1, ds1, p1, q1, rfl, rfl, rfl, h1, r1⟩ := trodAll_cons r0
  obtain ⟨rfl, rfl, rfl⟩ := trodAll_nil r1
  obtain rfl : args = #[v0, v1] := by cases args; simp_all
  obtain ⟨rfl, rfl⟩ := trodVars_none hV
  have k0 := h0
  have lt0 : ∀ x ∈ p0, x.block < W.heap.size := by obtain ⟨m, hm⟩ := k0; exact DataW.trod_lt m _ _ _ hm
  have k1 := h1
  have lt1 : ∀ x ∈ p1, x.block < W.heap.size := by obtain ⟨m, hm⟩ := k1; exact DataW.trod_lt m _ _ _ hm
  obtain ⟨a0_0, a0_1, a0_2, a0_3, a0_4, a0_5, rfl, w0_0, w0_1, w0_2, w0_3, w0_4, w0_5⟩ := Op.open_pts3 Tryd.underlying41 Tryd.underlying28 rfl rfl rfl rfl Tryd.underlying2 (by kernel_rfl) (by kernel_rfl) (by kernel_rfl) h0
  obtain ⟨a1, b1, rfl, w1, x1⟩ := Op.open_pt Tryd.underlying28 rfl rfl rfl rfl Tryd.underlying2 (by kernel_rfl) (by kernel_rfl) h1
  clear hA0
  refine (walk a0_0 a0_1 a0_2 a0_3 a0_4 a0_5 w0_0 w0_1 w0_2 w0_3 w0_4 w0_5 a1 b1 w1 x1 (table0 hL)).mono fun e W' ⟨he, bel⟩ => ?_
  subst he
  exact ⟨_, rfl, _, _, _, [], _, [], hW', trodAll_mk1 (shut_bool Tryd.underlying4 _), (trodAll_cons_mk (Below.trod laidOut (by kernel_rfl) (of_decide_eq_true (by kernel_rfl)) k0 bel lt0) (trodAll_cons_mk (Below.trod laidOut (by kernel_rfl) (of_decide_eq_true (by kernel_rfl)) k1 bel lt1) trodAll_mk0)), rfl, bel.frame _, fun h => by cases h⟩

theorem joined : joinedFacts Tryd.prog 10 Tryd.f10 (OpenSpec.ofChange Rows.discOrderSpec).bare Rows.discOrderRow = true := by
  have e1 := enterIs
  have e2 := liftsIs
  have e3 := makeIs
  generalize hP : Tryd.prog = P at *
  unfold joinedFacts
  simp only [Bool.and_eq_true]
  repeat' apply And.intro
  all_goals first
    | with_reducible exact e1
    | (rw [e2]; kernel_rfl)
    | (rw [e3]; kernel_rfl)
    | (subst hP; kernel_rfl)

noncomputable def laidHeap (os : Os) : Array Obj :=
  (World.holding Tryd.prog os ⟨#[], #[], []⟩).heap.modify 0 (fun
      | .cells _ t frozen => .cells #[.int .u64 9223372036854775808, .int .u64 18446744073709551615] t frozen
      | o => o)
noncomputable def laidWorld (os : Os) : World :=
  { World.holding Tryd.prog os ⟨#[], #[], []⟩ with heap := laidHeap os }
theorem laid_met (os : Os) : laidMet Tryd.prog Rows.discOrderRow.laid ((laidWorld os).forCall (fun _ _ => 0) ⟨#[], #[.agg #[.int .i64 0, .int .i64 0, .int .i64 0, .int .i64 0, .int .i64 0, .int .i64 0], .agg #[.int .i64 0, .int .i64 0]], []⟩).memory :=
  laidMet_of_run' 8 (by kernel_rfl) (by kernel_rfl)
theorem reads (os : Os) {H : Type} (enc : TypeId × Value → H) : ∃ places, DataW.whole enc Tryd.prog ((laidWorld os).forCall (fun _ _ => 0) ⟨#[], #[.agg #[.int .i64 0, .int .i64 0, .int .i64 0, .int .i64 0, .int .i64 0, .int .i64 0], .agg #[.int .i64 0, .int .i64 0]], []⟩).memory Tryd.f10.params.toList Rows.discOrderSpec.vars false (#[.agg #[.int .i64 0, .int .i64 0, .int .i64 0, .int .i64 0, .int .i64 0, .int .i64 0], .agg #[.int .i64 0, .int .i64 0]] : Array Value).toList 8 = some ([.agg [.agg [.lit (.int .i64 0), .lit (.int .i64 0)], .agg [.lit (.int .i64 0), .lit (.int .i64 0)], .agg [.lit (.int .i64 0), .lit (.int .i64 0)]], .agg [.lit (.int .i64 0), .lit (.int .i64 0)]], [], places) :=
  ⟨[], by kernel_rfl⟩

set_option maxRecDepth 100000 in
theorem lifted (os : Os) (started : os.Started) (H : Type) (enc : TypeId × Value → H) (F : Stop.Interp) :
    ReturnsInHanded {} Tryd.checked os 10 .any ((OpenSpec.ofChange Rows.discOrderSpec).preRow enc Tryd.prog Tryd.f10 Rows.discOrderRow.domain false Rows.discOrderRow.laid) (((OpenSpec.ofChange Rows.discOrderSpec).at F).post enc Tryd.prog Tryd.f10 false true false false) := by
  obtain ⟨places, hx⟩ := reads os enc
  refine returnsInHanded_of_row (C := Tryd.checked) (s := OpenSpec.ofChange Rows.discOrderSpec) own started (by kernel_rfl) Tryd.func10
    (witness_row_at (enc := enc) (C := Tryd.checked) false (laidWorld os) #[.agg #[.int .i64 0, .int .i64 0, .int .i64 0, .int .i64 0, .int .i64 0, .int .i64 0], .agg #[.int .i64 0, .int .i64 0]] rfl (by kernel_rfl) (by kernel_rfl) (by kernel_rfl)
      (OpenSpec.preRow_of_cond 8 hx (by kernel_rfl) (fun k hk => by cases hk) (by kernel_rfl) (laid_met os))) ?_
  intro W base args ds gs before hval hW _ _ _ hL _ _
  exact contract H enc W base args ds gs before hval hW hL

theorem said : Rows.DiscOrderSaid :=
  OpenClaim.holds_of_cond 10 Tryd.f10 rfl rfl rfl rfl rfl rfl rfl ⟨rfl, rfl, rfl, rfl, rfl⟩ rfl rfl rfl rfl rfl (by kernel_rfl) Tryd.func10 (joined)
    (of_decide_eq_true (by kernel_rfl)) (by unfold Func.isWrapper; first | (rw [if_pos (by decide +kernel)]; kernel_rfl) | (rw [if_neg (by decide +kernel)]; exact ⟨rfl, rfl⟩))
    (fun os started H enc _ F => by rw [OpenClaim.pre_eq_preRow]; exact lifted os started H enc F)

theorem plain (f : FuncId) (fn : Func) (hf : Tryd.pinned.checked.prog.funcNamed "geofence/geofencelaw15.DiscOrder" = some f) (hfn : Tryd.pinned.checked.prog.funcs[f]? = some fn) :
    false = Tryd.pinned.checked.prog.looks [] ∧ ∀ (j : Nat) t, fn.params[j]? = some t → Tryd.pinned.checked.prog.wantsStandIn t = false := by
  obtain rfl : f = 10 := Option.some.inj ((show Tryd.prog.funcNamed "geofence/geofencelaw15.DiscOrder" = some 10 by kernel_rfl).symm.trans hf) |>.symm
  obtain rfl : fn = Tryd.f10 := (Option.some.inj (Tryd.func10.symm.trans hfn)).symm
  refine ⟨by kernel_rfl, fun j t ht => ?_⟩
  rw [Tryd.params10] at ht
  have hm := Array.mem_of_getElem? ht
  simp at hm
  rcases hm with rfl | rfl
  · exact (show Tryd.prog.wantsStandIn 41 = false by kernel_rfl)
  · exact (show Tryd.prog.wantsStandIn 28 = false by kernel_rfl)

/-- THE CARD -/
theorem card : Rows.DiscOrderCardSaid :=
  Claim7.holds_tied_plain_at .later [] _ _ _ _ said (fun _ h => by cases h) (by kernel_rfl) (fun _ h => by cases h) discOrder_row_tie rfl ⟨rfl, rfl⟩ (mainText) rfl plain (by kernel_rfl)
#print axioms card
end Go.Proofs.YtoikcgmdlccdbaaDoor.discOrder
