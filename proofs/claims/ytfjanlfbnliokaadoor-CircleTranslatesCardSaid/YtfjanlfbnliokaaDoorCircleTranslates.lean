/- CircleTranslates: for every input the law returns true, and each argument reads afterwards as it read before; the package variable that the row lists holds what it lists. -/
import Derived.Test.YtfjanlfbnliokaaDoorCards
import Derived.Test.YtfjanlfbnliokaaDoorTie
import Derived.Test.YtfjanlfbnliokaaDoorLaw7
import Derived.Test.YtfjanlfbnliokaaDoorRegM
import Derived.Test.YtfjanlfbnliokaaDoorOpenPt
import Derived.WalkKit
import Derived.ProofKit
import Derived.OpenShut
import Derived.Below
import Derived.Deep.DeepHandedRow
import Derived.Lib.LaidTab
namespace Go.Proofs.YtfjanlfbnliokaaDoor.circleTranslates
open Go.ChangeShapes Go.WideShapes Go.ChangeAt Go.RowKit Wd
set_option linter.unusedVariables false
set_option linter.unusedSimpArgs false

theorem own : ownKnob Tryd.prog.godebug = none := by kernel_rfl
theorem laidOut : laidOutB Tryd.prog = true := by kernel_rfl

theorem circ_shift (ax ay bx b_ cx cy dx dy x y : Int) : circ (ax + x) (ay + y) (bx + x) (b_ + y) (cx + x) (cy + y) (dx + x) (dy + y) = circ ax ay bx b_ cx cy dx dy := by unfold circ nrm mnr; grind
def okI' (p x : Int) : Bool := decide (-9223372036854775808 ≤ p + x ∧ p + x ≤ 9223372036854775807)
theorem okI'_true {p x : Int} (h : okI' p x = true) : IsI (p + x) ∧ IntKind.i64.wrap (p + x) = p + x := by
  simp [okI'] at h; refine ⟨by unfold IsI; omega, by rw [IntKind.wrap_i64]; omega⟩
theorem okI'_test {p x : Int} (hp : IsI p) (hx : IsI x) : decide (IntKind.i64.wrap (p + x) < p) = (if okI' p x then decide (x < 0) else !decide (x < 0)) := by
  unfold IsI at *
  rw [IntKind.wrap_i64]
  by_cases h : -9223372036854775808 ≤ p + x ∧ p + x ≤ 9223372036854775807
  · rw [show okI' p x = true from by simp [okI', h]]
    by_cases h0 : x < 0
    · simp [h0]; omega
    · simp [h0]; omega
  · rw [show okI' p x = false from by simp [okI']; omega]
    by_cases h0 : x < 0
    · simp [h0]; omega
    · simp [h0]; omega
set_option maxHeartbeats 4000000 in
theorem walk {w : World} (a0_0 a0_1 a0_2 a0_3 a0_4 a0_5 a0_6 a0_7 : Int) (w0_0 : (Lit.int .i64 a0_0).wf = true) (w0_1 : (Lit.int .i64 a0_1).wf = true) (w0_2 : (Lit.int .i64 a0_2).wf = true) (w0_3 : (Lit.int .i64 a0_3).wf = true) (w0_4 : (Lit.int .i64 a0_4).wf = true) (w0_5 : (Lit.int .i64 a0_5).wf = true) (w0_6 : (Lit.int .i64 a0_6).wf = true) (w0_7 : (Lit.int .i64 a0_7).wf = true) (a1 b1 : Int) (w1 : (Lit.int .i64 a1).wf = true) (x1 : (Lit.int .i64 b1).wf = true) (hT : TabM w) :
    Calls Tryd.prog 12 #[.agg #[.int .i64 a0_0, .int .i64 a0_1, .int .i64 a0_2, .int .i64 a0_3, .int .i64 a0_4, .int .i64 a0_5, .int .i64 a0_6, .int .i64 a0_7], .agg #[.int .i64 a1, .int .i64 b1]] w fun e w' => e = .returned (.bool true) ∧ Below w.heap.size w w' := by
  have HB0 := Lib.hid (Below.refl w.heap.size w)
  have i0_0 := isI_of_wf w0_0
  have i0_1 := isI_of_wf w0_1
  have i0_2 := isI_of_wf w0_2
  have i0_3 := isI_of_wf w0_3
  have i0_4 := isI_of_wf w0_4
  have i0_5 := isI_of_wf w0_5
  have i0_6 := isI_of_wf w0_6
  have i0_7 := isI_of_wf w0_7
  have ia1 := isI_of_wf w1
  have ib1 := isI_of_wf x1
  have FT := Lib.hid hT; clear hT
  obtain ⟨sx, hsx⟩ : ∃ s, s = decide (a1 < 0) := ⟨_, rfl⟩
  obtain ⟨sy, hsy⟩ : ∃ s, s = decide (b1 < 0) := ⟨_, rfl⟩
  have t0 := okI'_test i0_0 ia1; rw [← hsx] at t0; have u0 := @okI'_true a0_0 a1
  obtain ⟨X0, hX0⟩ : ∃ X, X = IntKind.i64.wrap (a0_0 + a1) := ⟨_, rfl⟩
  rw [← hX0] at t0 u0
  generalize okI' a0_0 a1 = g0 at *
  have t1 := okI'_test i0_1 ib1; rw [← hsy] at t1; have u1 := @okI'_true a0_1 b1
  obtain ⟨X1, hX1⟩ : ∃ X, X = IntKind.i64.wrap (a0_1 + b1) := ⟨_, rfl⟩
  rw [← hX1] at t1 u1
  generalize okI' a0_1 b1 = g1 at *
  have t2 := okI'_test i0_2 ia1; rw [← hsx] at t2; have u2 := @okI'_true a0_2 a1
  obtain ⟨X2, hX2⟩ : ∃ X, X = IntKind.i64.wrap (a0_2 + a1) := ⟨_, rfl⟩
  rw [← hX2] at t2 u2
  generalize okI' a0_2 a1 = g2 at *
  have t3 := okI'_test i0_3 ib1; rw [← hsy] at t3; have u3 := @okI'_true a0_3 b1
  obtain ⟨X3, hX3⟩ : ∃ X, X = IntKind.i64.wrap (a0_3 + b1) := ⟨_, rfl⟩
  rw [← hX3] at t3 u3
  generalize okI' a0_3 b1 = g3 at *
  have t4 := okI'_test i0_4 ia1; rw [← hsx] at t4; have u4 := @okI'_true a0_4 a1
  obtain ⟨X4, hX4⟩ : ∃ X, X = IntKind.i64.wrap (a0_4 + a1) := ⟨_, rfl⟩
  rw [← hX4] at t4 u4
  generalize okI' a0_4 a1 = g4 at *
  have t5 := okI'_test i0_5 ib1; rw [← hsy] at t5; have u5 := @okI'_true a0_5 b1
  obtain ⟨X5, hX5⟩ : ∃ X, X = IntKind.i64.wrap (a0_5 + b1) := ⟨_, rfl⟩
  rw [← hX5] at t5 u5
  generalize okI' a0_5 b1 = g5 at *
  have t6 := okI'_test i0_6 ia1; rw [← hsx] at t6; have u6 := @okI'_true a0_6 a1
  obtain ⟨X6, hX6⟩ : ∃ X, X = IntKind.i64.wrap (a0_6 + a1) := ⟨_, rfl⟩
  rw [← hX6] at t6 u6
  generalize okI' a0_6 a1 = g6 at *
  have t7 := okI'_test i0_7 ib1; rw [← hsy] at t7; have u7 := @okI'_true a0_7 b1
  obtain ⟨X7, hX7⟩ : ∃ X, X = IntKind.i64.wrap (a0_7 + b1) := ⟨_, rfl⟩
  rw [← hX7] at t7 u7
  generalize okI' a0_7 b1 = g7 at *
  have HSX := Lib.hid hsx.symm; have HSY := Lib.hid hsy.symm; clear hsx hsy
  have HX0 := Lib.hid hX0.symm; have HT0 := Lib.hid t0; have HU0 := Lib.hid u0; clear hX0 t0 u0
  have HX1 := Lib.hid hX1.symm; have HT1 := Lib.hid t1; have HU1 := Lib.hid u1; clear hX1 t1 u1
  have HX2 := Lib.hid hX2.symm; have HT2 := Lib.hid t2; have HU2 := Lib.hid u2; clear hX2 t2 u2
  have HX3 := Lib.hid hX3.symm; have HT3 := Lib.hid t3; have HU3 := Lib.hid u3; clear hX3 t3 u3
  have HX4 := Lib.hid hX4.symm; have HT4 := Lib.hid t4; have HU4 := Lib.hid u4; clear hX4 t4 u4
  have HX5 := Lib.hid hX5.symm; have HT5 := Lib.hid t5; have HU5 := Lib.hid u5; clear hX5 t5 u5
  have HX6 := Lib.hid hX6.symm; have HT6 := Lib.hid t6; have HU6 := Lib.hid u6; clear hX6 t6 u6
  have HX7 := Lib.hid hX7.symm; have HT7 := Lib.hid t7; have HU7 := Lib.hid u7; clear hX7 t7 u7
  go_enter Tryd.func12, Tryd.ntmps12
  go_wp2_with fail
  have B : Below w.heap.size w ((w.alloc (.cells #[.int .i64 a0_0, .int .i64 a0_1, .int .i64 a0_2, .int .i64 a0_3, .int .i64 a0_4, .int .i64 a0_5, .int .i64 a0_6, .int .i64 a0_7] 48)).alloc (.cells #[.int .i64 a1, .int .i64 b1] 23)) := ((HB0.out.alloc HB0.out.size _).alloc (HB0.out.alloc HB0.out.size _).size _)
  have C : Below w.heap.size w ((w.alloc (.cells #[.int .i64 a0_0, .int .i64 a0_1, .int .i64 a0_2, .int .i64 a0_3, .int .i64 a0_4, .int .i64 a0_5, .int .i64 a0_6, .int .i64 a0_7] 48)).alloc (.cells #[.int .i64 a1, .int .i64 b1] 23)) := (((Below.refl w.heap.size w).alloc (Nat.le_refl _) _).alloc (by simp; try omega) _)
  have X0 : Bx ((w.alloc (.cells #[.int .i64 a0_0, .int .i64 a0_1, .int .i64 a0_2, .int .i64 a0_3, .int .i64 a0_4, .int .i64 a0_5, .int .i64 a0_6, .int .i64 a0_7] 48)).alloc (.cells #[.int .i64 a1, .int .i64 b1] 23)) (w.heap.size) #[.int .i64 a0_0, .int .i64 a0_1, .int .i64 a0_2, .int .i64 a0_3, .int .i64 a0_4, .int .i64 a0_5, .int .i64 a0_6, .int .i64 a0_7] 48 := by simpa using ((Bx.new w #[.int .i64 a0_0, .int .i64 a0_1, .int .i64 a0_2, .int .i64 a0_3, .int .i64 a0_4, .int .i64 a0_5, .int .i64 a0_6, .int .i64 a0_7] 48).alloc _)
  have X1 : Bx ((w.alloc (.cells #[.int .i64 a0_0, .int .i64 a0_1, .int .i64 a0_2, .int .i64 a0_3, .int .i64 a0_4, .int .i64 a0_5, .int .i64 a0_6, .int .i64 a0_7] 48)).alloc (.cells #[.int .i64 a1, .int .i64 b1] 23)) (w.heap.size + 1) #[.int .i64 a1, .int .i64 b1] 23 := by simpa using (Bx.new (w.alloc (.cells #[.int .i64 a0_0, .int .i64 a0_1, .int .i64 a0_2, .int .i64 a0_3, .int .i64 a0_4, .int .i64 a0_5, .int .i64 a0_6, .int .i64 a0_7] 48)) #[.int .i64 a1, .int .i64 b1] 23)
  have FT_1 := Lib.hid (FT.out.below C (Nat.le_refl _))
  have HB1 := Lib.hid B
  have FA_1 := Lib.hid X0
  have FQ_1 := Lib.hid X1
  clear B C X0 X1 HB0 FT
  have HSZ := Lib.hid (show ((w.alloc (.cells #[.int .i64 a0_0, .int .i64 a0_1, .int .i64 a0_2, .int .i64 a0_3, .int .i64 a0_4, .int .i64 a0_5, .int .i64 a0_6, .int .i64 a0_7] 48)).alloc (.cells #[.int .i64 a1, .int .i64 b1] 23)).heap.size = w.heap.size + 1 + 1 from by simp)
  generalize ((w.alloc (.cells #[.int .i64 a0_0, .int .i64 a0_1, .int .i64 a0_2, .int .i64 a0_3, .int .i64 a0_4, .int .i64 a0_5, .int .i64 a0_6, .int .i64 a0_7] 48)).alloc (.cells #[.int .i64 a1, .int .i64 b1] 23)) = w1 at *
  have C2 := Lib.hid (show Below w1.heap.size w1 (w1.alloc (.cells #[.int .i64 a0_0, .int .i64 a0_1, .int .i64 a0_2, .int .i64 a0_3, .int .i64 a0_4, .int .i64 a0_5, .int .i64 a0_6, .int .i64 a0_7] 48)) from below_al below_rf)
  have M2 := Lib.hid (show Bx (w1.alloc (.cells #[.int .i64 a0_0, .int .i64 a0_1, .int .i64 a0_2, .int .i64 a0_3, .int .i64 a0_4, .int .i64 a0_5, .int .i64 a0_6, .int .i64 a0_7] 48)) (w.heap.size + 1 + 1) #[.int .i64 a0_0, .int .i64 a0_1, .int .i64 a0_2, .int .i64 a0_3, .int .i64 a0_4, .int .i64 a0_5, .int .i64 a0_6, .int .i64 a0_7] 48 from bx_new HSZ.out.symm)
  generalize (w1.alloc (.cells #[.int .i64 a0_0, .int .i64 a0_1, .int .i64 a0_2, .int .i64 a0_3, .int .i64 a0_4, .int .i64 a0_5, .int .i64 a0_6, .int .i64 a0_7] 48)) = w2 at *
  refine wp_loop_rounds 5 ?_
  rw [rounds_succ]
  go_upto_region 5 with (fail)
  have MD := Lib.hid (show Bx w2.drew (w.heap.size + 1 + 1) #[.int .i64 a0_0, .int .i64 a0_1, .int .i64 a0_2, .int .i64 a0_3, .int .i64 a0_4, .int .i64 a0_5, .int .i64 a0_6, .int .i64 a0_7] 48 from bx_dr M2.out)
  refine wp_region_held_drew (S := fun _ => True) (by kernel_rfl) trivial (fun _ => ?_)
  refine wpAnyH_genM w1.heap.size (w.heap.size + 1 + 1) 48 #[.int .i64 a0_0, .int .i64 a0_1, .int .i64 a0_2, .int .i64 a0_3, .int .i64 a0_4, .int .i64 a0_5, .int .i64 a0_6, .int .i64 a0_7] [⟨9, 0, [.int .i64 X0]⟩] [⟨0, 11, .int .i64 0⟩, ⟨1, 12, .pointer (some ⟨w.heap.size + 1 + 1, 0, none⟩)⟩, ⟨2, 13, .pointer (some ⟨w.heap.size + 1 + 1, 0, none⟩)⟩, ⟨3, 14, .int .i64 a0_0⟩, ⟨4, 15, .pointer (some ⟨w.heap.size + 1, 0, none⟩)⟩, ⟨5, 16, .int .i64 a1⟩, ⟨6, 17, .int .i64 X0⟩, ⟨7, 18, .pointer (some ⟨w.heap.size + 1 + 1, 0, none⟩)⟩, ⟨8, 19, .pointer (some ⟨w.heap.size + 1 + 1, 0, none⟩)⟩] (by kernel_rfl) (fun _ => trivial) (Nat.le_of_eq HSZ.out) MD.out ?_ ?_ ?_
  · refine ⟨?_, ?_, ?_, ?_, ?_, ?_, ?_, ?_, ?_, trivial⟩
    · intro a wz K hb ht hd hM hK
      have hbw := Lib.hid (C2.out.trans ((Below.refl w1.heap.size w2).drew.trans hb)); clear hb
      have HK := Lib.hid hK; clear hK
      all_goals (
      have hx6 := (ht 6 rfl).trans rfl
      have es6 : a.tmps.getD 6 undef = _ := getD_of hx6; clear hx6
      clear ht hd
      clear hM
      refine wpOp_step (by simp only [List.getElem?_toArray, List.getElem?_cons_succ, List.getElem?_cons_zero]; rfl) (fun K' hK' => ?_)
      have HK' := Lib.hid hK'; clear hK'
      go_simp
      exact HK'.out _ _ HK.out)
    · intro a wz K hb ht hd hM hK
      have hbw := Lib.hid (C2.out.trans ((Below.refl w1.heap.size w2).drew.trans hb)); clear hb
      have HK := Lib.hid hK; clear hK
      all_goals (
      have hx5 := (ht 5 rfl).trans rfl
      have es5 : a.tmps.getD 5 undef = _ := getD_of hx5; clear hx5
      have hx11 : a.tmps[11]? = some (.int .i64 0) := hd 0 _ rfl (by kernel_rfl)
      have es11 : a.tmps.getD 11 undef = _ := getD_of hx11; clear hx11
      clear ht hd
      clear hM
      refine wpOp_step (by simp only [List.getElem?_toArray, List.getElem?_cons_succ, List.getElem?_cons_zero]; rfl) (fun K' hK' => ?_)
      have HK' := Lib.hid hK'; clear hK'
      go_simp
      exact HK'.out _ _ HK.out)
    · intro a wz K hb ht hd hM hK
      have hbw := Lib.hid (C2.out.trans ((Below.refl w1.heap.size w2).drew.trans hb)); clear hb
      have HK := Lib.hid hK; clear hK
      all_goals (
      have hx12 : a.tmps[12]? = some (.pointer (some ⟨w.heap.size + 1 + 1, 0, none⟩)) := hd 1 _ rfl (by kernel_rfl)
      have es12 : a.tmps.getD 12 undef = _ := getD_of hx12; clear hx12
      clear ht hd
      clear hM
      refine wpOp_step (by simp only [List.getElem?_toArray, List.getElem?_cons_succ, List.getElem?_cons_zero]; rfl) (fun K' hK' => ?_)
      have HK' := Lib.hid hK'; clear hK'
      go_simp
      exact HK'.out _ _ HK.out)
    · intro a wz K hb ht hd hM hK
      have hbw := Lib.hid (C2.out.trans ((Below.refl w1.heap.size w2).drew.trans hb)); clear hb
      have HK := Lib.hid hK; clear hK
      all_goals (
      have hx13 : a.tmps[13]? = some (.pointer (some ⟨w.heap.size + 1 + 1, 0, none⟩)) := hd 2 _ rfl (by kernel_rfl)
      have es13 : a.tmps.getD 13 undef = _ := getD_of hx13; clear hx13
      clear ht hd
      have HM := Lib.hid (hM (fun s0 h => by cases h; kernel_rfl))
      clear hM
      have zc0 := HM.out.cell 0 (v := .int .i64 a0_0) rfl
      refine wpOp_step (by simp only [List.getElem?_toArray, List.getElem?_cons_succ, List.getElem?_cons_zero]; rfl) (fun K' hK' => ?_)
      have HK' := Lib.hid hK'; clear hK'
      go_simp
      exact HK'.out _ _ HK.out)
    · intro a wz K hb ht hd hM hK
      have hbw := Lib.hid (C2.out.trans ((Below.refl w1.heap.size w2).drew.trans hb)); clear hb
      have HK := Lib.hid hK; clear hK
      all_goals (
      have hx3 := (ht 3 rfl).trans rfl
      have es3 : a.tmps.getD 3 undef = _ := getD_of hx3; clear hx3
      clear ht hd
      clear hM
      refine wpOp_step (by simp only [List.getElem?_toArray, List.getElem?_cons_succ, List.getElem?_cons_zero]; rfl) (fun K' hK' => ?_)
      have HK' := Lib.hid hK'; clear hK'
      go_simp
      exact HK'.out _ _ HK.out)
    · intro a wz K hb ht hd hM hK
      have hbw := Lib.hid (C2.out.trans ((Below.refl w1.heap.size w2).drew.trans hb)); clear hb
      have HK := Lib.hid hK; clear hK
      all_goals (
      have hx15 : a.tmps[15]? = some (.pointer (some ⟨w.heap.size + 1, 0, none⟩)) := hd 4 _ rfl (by kernel_rfl)
      have es15 : a.tmps.getD 15 undef = _ := getD_of hx15; clear hx15
      clear ht hd
      clear hM
      have zc0 := (FQ_1.out.below hbw.out (Nat.le_refl _)).cell 0 (v := .int .i64 a1) rfl
      refine wpOp_step (by simp only [List.getElem?_toArray, List.getElem?_cons_succ, List.getElem?_cons_zero]; rfl) (fun K' hK' => ?_)
      have HK' := Lib.hid hK'; clear hK'
      go_simp
      exact HK'.out _ _ HK.out)
    · intro a wz K hb ht hd hM hK
      have hbw := Lib.hid (C2.out.trans ((Below.refl w1.heap.size w2).drew.trans hb)); clear hb
      have HK := Lib.hid hK; clear hK
      all_goals (
      have hx14 : a.tmps[14]? = some (.int .i64 a0_0) := hd 3 _ rfl (by kernel_rfl)
      have es14 : a.tmps.getD 14 undef = _ := getD_of hx14; clear hx14
      have hx16 : a.tmps[16]? = some (.int .i64 a1) := hd 5 _ rfl (by kernel_rfl)
      have es16 : a.tmps.getD 16 undef = _ := getD_of hx16; clear hx16
      clear ht hd
      clear hM
      have ex := HX0.out
      refine wpOp_step (by simp only [List.getElem?_toArray, List.getElem?_cons_succ, List.getElem?_cons_zero]; rfl) (fun K' hK' => ?_)
      have HK' := Lib.hid hK'; clear hK'
      go_simp
      exact HK'.out _ _ HK.out)
    · intro a wz K hb ht hd hM hK
      have hbw := Lib.hid (C2.out.trans ((Below.refl w1.heap.size w2).drew.trans hb)); clear hb
      have HK := Lib.hid hK; clear hK
      all_goals (
      have hx5 := (ht 5 rfl).trans rfl
      have es5 : a.tmps.getD 5 undef = _ := getD_of hx5; clear hx5
      have hx11 : a.tmps[11]? = some (.int .i64 0) := hd 0 _ rfl (by kernel_rfl)
      have es11 : a.tmps.getD 11 undef = _ := getD_of hx11; clear hx11
      clear ht hd
      clear hM
      refine wpOp_step (by simp only [List.getElem?_toArray, List.getElem?_cons_succ, List.getElem?_cons_zero]; rfl) (fun K' hK' => ?_)
      have HK' := Lib.hid hK'; clear hK'
      go_simp
      exact HK'.out _ _ HK.out)
    · intro a wz K hb ht hd hM hK
      have hbw := Lib.hid (C2.out.trans ((Below.refl w1.heap.size w2).drew.trans hb)); clear hb
      have HK := Lib.hid hK; clear hK
      all_goals (
      have hx18 : a.tmps[18]? = some (.pointer (some ⟨w.heap.size + 1 + 1, 0, none⟩)) := hd 7 _ rfl (by kernel_rfl)
      have es18 : a.tmps.getD 18 undef = _ := getD_of hx18; clear hx18
      clear ht hd
      clear hM
      refine wpOp_step (by simp only [List.getElem?_toArray, List.getElem?_cons_succ, List.getElem?_cons_zero]; rfl) (fun K' hK' => ?_)
      have HK' := Lib.hid hK'; clear hK'
      go_simp
      exact HK'.out _ _ HK.out)
  · refine ⟨?_, trivial⟩
    · intro a wz cs K hb ht hd hbx hsz hK
      have HK := Lib.hid hK; clear hK hb
      all_goals (
      have hx19 : a.tmps[19]? = some (.pointer (some ⟨w.heap.size + 1 + 1, 0, none⟩)) := hd 8 _ rfl (by kernel_rfl)
      have es19 : a.tmps.getD 19 undef = _ := getD_of hx19; clear hx19
      have hx17 : a.tmps[17]? = some (.int .i64 X0) := hd 6 _ rfl (by kernel_rfl)
      have es17 : a.tmps.getD 17 undef = _ := getD_of hx17; clear hx17
      clear ht hd
      obtain ⟨zv0, zc0⟩ := hbx.some (i := 0 + 0) (by rw [hsz]; simp); have zf0 := hbx.free (0 + 0)
      have zl := hbx.lt; clear hbx hsz
      refine wpOp_step (by simp only [List.getElem?_toArray, List.getElem?_cons_succ, List.getElem?_cons_zero]; rfl) (fun K' hK' => ?_)
      have HK' := Lib.hid hK'; clear hK'
      go_simp
      exact HK'.out _ _ HK.out)
  intro w3 hb hx
  have C3 := Lib.hid (C2.out.trans ((Below.refl w1.heap.size w2).drew.trans hb)); clear hb
  have M3 : Hid (Bx w3 (w.heap.size + 1 + 1) #[.int .i64 X0, .int .i64 a0_1, .int .i64 a0_2, .int .i64 a0_3, .int .i64 a0_4, .int .i64 a0_5, .int .i64 a0_6, .int .i64 a0_7] 48) := Lib.hid hx; clear hx M2 MD C2
  simp only [List.foldl_cons, List.foldl_nil, Act.put, List.setIfInBounds_toArray, List.set_cons_zero, List.set_cons_succ]
  go_upto_region 6 with (fail)
  have MD := Lib.hid (show Bx w3.drew (w.heap.size + 1 + 1) #[.int .i64 X0, .int .i64 a0_1, .int .i64 a0_2, .int .i64 a0_3, .int .i64 a0_4, .int .i64 a0_5, .int .i64 a0_6, .int .i64 a0_7] 48 from bx_dr M3.out)
  refine wp_region_held_drew (S := fun _ => True) (by kernel_rfl) trivial (fun _ => ?_)
  refine wpAnyH_genM w1.heap.size (w.heap.size + 1 + 1) 48 #[.int .i64 X0, .int .i64 a0_1, .int .i64 a0_2, .int .i64 a0_3, .int .i64 a0_4, .int .i64 a0_5, .int .i64 a0_6, .int .i64 a0_7] [⟨9, 1, [.int .i64 X1]⟩] [⟨0, 20, .int .i64 0⟩, ⟨1, 21, .pointer (some ⟨w.heap.size + 1 + 1, 0, none⟩)⟩, ⟨2, 22, .pointer (some ⟨w.heap.size + 1 + 1, 1, none⟩)⟩, ⟨3, 23, .int .i64 a0_1⟩, ⟨4, 24, .pointer (some ⟨w.heap.size + 1, 1, none⟩)⟩, ⟨5, 25, .int .i64 b1⟩, ⟨6, 26, .int .i64 X1⟩, ⟨7, 27, .pointer (some ⟨w.heap.size + 1 + 1, 0, none⟩)⟩, ⟨8, 28, .pointer (some ⟨w.heap.size + 1 + 1, 1, none⟩)⟩] (by kernel_rfl) (fun _ => trivial) (Nat.le_of_eq HSZ.out) MD.out ?_ ?_ ?_
  · refine ⟨?_, ?_, ?_, ?_, ?_, ?_, ?_, ?_, ?_, trivial⟩
    · intro a wz K hb ht hd hM hK
      have hbw := Lib.hid (C3.out.trans ((Below.refl w1.heap.size w3).drew.trans hb)); clear hb
      have HK := Lib.hid hK; clear hK
      all_goals (
      have hx6 := (ht 6 rfl).trans rfl
      have es6 : a.tmps.getD 6 undef = _ := getD_of hx6; clear hx6
      clear ht hd
      clear hM
      refine wpOp_step (by simp only [List.getElem?_toArray, List.getElem?_cons_succ, List.getElem?_cons_zero]; rfl) (fun K' hK' => ?_)
      have HK' := Lib.hid hK'; clear hK'
      go_simp
      exact HK'.out _ _ HK.out)
    · intro a wz K hb ht hd hM hK
      have hbw := Lib.hid (C3.out.trans ((Below.refl w1.heap.size w3).drew.trans hb)); clear hb
      have HK := Lib.hid hK; clear hK
      all_goals (
      have hx5 := (ht 5 rfl).trans rfl
      have es5 : a.tmps.getD 5 undef = _ := getD_of hx5; clear hx5
      have hx20 : a.tmps[20]? = some (.int .i64 0) := hd 0 _ rfl (by kernel_rfl)
      have es20 : a.tmps.getD 20 undef = _ := getD_of hx20; clear hx20
      clear ht hd
      clear hM
      refine wpOp_step (by simp only [List.getElem?_toArray, List.getElem?_cons_succ, List.getElem?_cons_zero]; rfl) (fun K' hK' => ?_)
      have HK' := Lib.hid hK'; clear hK'
      go_simp
      exact HK'.out _ _ HK.out)
    · intro a wz K hb ht hd hM hK
      have hbw := Lib.hid (C3.out.trans ((Below.refl w1.heap.size w3).drew.trans hb)); clear hb
      have HK := Lib.hid hK; clear hK
      all_goals (
      have hx21 : a.tmps[21]? = some (.pointer (some ⟨w.heap.size + 1 + 1, 0, none⟩)) := hd 1 _ rfl (by kernel_rfl)
      have es21 : a.tmps.getD 21 undef = _ := getD_of hx21; clear hx21
      clear ht hd
      clear hM
      refine wpOp_step (by simp only [List.getElem?_toArray, List.getElem?_cons_succ, List.getElem?_cons_zero]; rfl) (fun K' hK' => ?_)
      have HK' := Lib.hid hK'; clear hK'
      go_simp
      exact HK'.out _ _ HK.out)
    · intro a wz K hb ht hd hM hK
      have hbw := Lib.hid (C3.out.trans ((Below.refl w1.heap.size w3).drew.trans hb)); clear hb
      have HK := Lib.hid hK; clear hK
      all_goals (
      have hx22 : a.tmps[22]? = some (.pointer (some ⟨w.heap.size + 1 + 1, 1, none⟩)) := hd 2 _ rfl (by kernel_rfl)
      have es22 : a.tmps.getD 22 undef = _ := getD_of hx22; clear hx22
      clear ht hd
      have HM := Lib.hid (hM (fun s0 h => by cases h; kernel_rfl))
      clear hM
      have zc0 := HM.out.cell 1 (v := .int .i64 a0_1) rfl
      refine wpOp_step (by simp only [List.getElem?_toArray, List.getElem?_cons_succ, List.getElem?_cons_zero]; rfl) (fun K' hK' => ?_)
      have HK' := Lib.hid hK'; clear hK'
      go_simp
      exact HK'.out _ _ HK.out)
    · intro a wz K hb ht hd hM hK
      have hbw := Lib.hid (C3.out.trans ((Below.refl w1.heap.size w3).drew.trans hb)); clear hb
      have HK := Lib.hid hK; clear hK
      all_goals (
      have hx3 := (ht 3 rfl).trans rfl
      have es3 : a.tmps.getD 3 undef = _ := getD_of hx3; clear hx3
      clear ht hd
      clear hM
      refine wpOp_step (by simp only [List.getElem?_toArray, List.getElem?_cons_succ, List.getElem?_cons_zero]; rfl) (fun K' hK' => ?_)
      have HK' := Lib.hid hK'; clear hK'
      go_simp
      exact HK'.out _ _ HK.out)
    · intro a wz K hb ht hd hM hK
      have hbw := Lib.hid (C3.out.trans ((Below.refl w1.heap.size w3).drew.trans hb)); clear hb
      have HK := Lib.hid hK; clear hK
      all_goals (
      have hx24 : a.tmps[24]? = some (.pointer (some ⟨w.heap.size + 1, 1, none⟩)) := hd 4 _ rfl (by kernel_rfl)
      have es24 : a.tmps.getD 24 undef = _ := getD_of hx24; clear hx24
      clear ht hd
      clear hM
      have zc0 := (FQ_1.out.below hbw.out (Nat.le_refl _)).cell 1 (v := .int .i64 b1) rfl
      refine wpOp_step (by simp only [List.getElem?_toArray, List.getElem?_cons_succ, List.getElem?_cons_zero]; rfl) (fun K' hK' => ?_)
      have HK' := Lib.hid hK'; clear hK'
      go_simp
      exact HK'.out _ _ HK.out)
    · intro a wz K hb ht hd hM hK
      have hbw := Lib.hid (C3.out.trans ((Below.refl w1.heap.size w3).drew.trans hb)); clear hb
      have HK := Lib.hid hK; clear hK
      all_goals (
      have hx23 : a.tmps[23]? = some (.int .i64 a0_1) := hd 3 _ rfl (by kernel_rfl)
      have es23 : a.tmps.getD 23 undef = _ := getD_of hx23; clear hx23
      have hx25 : a.tmps[25]? = some (.int .i64 b1) := hd 5 _ rfl (by kernel_rfl)
      have es25 : a.tmps.getD 25 undef = _ := getD_of hx25; clear hx25
      clear ht hd
      clear hM
      have ex := HX1.out
      refine wpOp_step (by simp only [List.getElem?_toArray, List.getElem?_cons_succ, List.getElem?_cons_zero]; rfl) (fun K' hK' => ?_)
      have HK' := Lib.hid hK'; clear hK'
      go_simp
      exact HK'.out _ _ HK.out)
    · intro a wz K hb ht hd hM hK
      have hbw := Lib.hid (C3.out.trans ((Below.refl w1.heap.size w3).drew.trans hb)); clear hb
      have HK := Lib.hid hK; clear hK
      all_goals (
      have hx5 := (ht 5 rfl).trans rfl
      have es5 : a.tmps.getD 5 undef = _ := getD_of hx5; clear hx5
      have hx20 : a.tmps[20]? = some (.int .i64 0) := hd 0 _ rfl (by kernel_rfl)
      have es20 : a.tmps.getD 20 undef = _ := getD_of hx20; clear hx20
      clear ht hd
      clear hM
      refine wpOp_step (by simp only [List.getElem?_toArray, List.getElem?_cons_succ, List.getElem?_cons_zero]; rfl) (fun K' hK' => ?_)
      have HK' := Lib.hid hK'; clear hK'
      go_simp
      exact HK'.out _ _ HK.out)
    · intro a wz K hb ht hd hM hK
      have hbw := Lib.hid (C3.out.trans ((Below.refl w1.heap.size w3).drew.trans hb)); clear hb
      have HK := Lib.hid hK; clear hK
      all_goals (
      have hx27 : a.tmps[27]? = some (.pointer (some ⟨w.heap.size + 1 + 1, 0, none⟩)) := hd 7 _ rfl (by kernel_rfl)
      have es27 : a.tmps.getD 27 undef = _ := getD_of hx27; clear hx27
      clear ht hd
      clear hM
      refine wpOp_step (by simp only [List.getElem?_toArray, List.getElem?_cons_succ, List.getElem?_cons_zero]; rfl) (fun K' hK' => ?_)
      have HK' := Lib.hid hK'; clear hK'
      go_simp
      exact HK'.out _ _ HK.out)
  · refine ⟨?_, trivial⟩
    · intro a wz cs K hb ht hd hbx hsz hK
      have HK := Lib.hid hK; clear hK hb
      all_goals (
      have hx28 : a.tmps[28]? = some (.pointer (some ⟨w.heap.size + 1 + 1, 1, none⟩)) := hd 8 _ rfl (by kernel_rfl)
      have es28 : a.tmps.getD 28 undef = _ := getD_of hx28; clear hx28
      have hx26 : a.tmps[26]? = some (.int .i64 X1) := hd 6 _ rfl (by kernel_rfl)
      have es26 : a.tmps.getD 26 undef = _ := getD_of hx26; clear hx26
      clear ht hd
      obtain ⟨zv0, zc0⟩ := hbx.some (i := 1 + 0) (by rw [hsz]; simp); have zf0 := hbx.free (1 + 0)
      have zl := hbx.lt; clear hbx hsz
      refine wpOp_step (by simp only [List.getElem?_toArray, List.getElem?_cons_succ, List.getElem?_cons_zero]; rfl) (fun K' hK' => ?_)
      have HK' := Lib.hid hK'; clear hK'
      go_simp
      exact HK'.out _ _ HK.out)
  intro w4 hb hx
  have C4 := Lib.hid (C3.out.trans ((Below.refl w1.heap.size w3).drew.trans hb)); clear hb
  have M4 : Hid (Bx w4 (w.heap.size + 1 + 1) #[.int .i64 X0, .int .i64 X1, .int .i64 a0_2, .int .i64 a0_3, .int .i64 a0_4, .int .i64 a0_5, .int .i64 a0_6, .int .i64 a0_7] 48) := Lib.hid hx; clear hx M3 MD C3
  simp only [List.foldl_cons, List.foldl_nil, Act.put, List.setIfInBounds_toArray, List.set_cons_zero, List.set_cons_succ]
  cases g0
  · have FT_5 := Lib.hid (FT_1.out.below C4.out (Nat.le_refl _))
    have FA_5 := Lib.hid (FA_1.out.below C4.out (Nat.le_refl _))
    have FQ_5 := Lib.hid (FQ_1.out.below C4.out (Nat.le_refl _))
    have FM_5 := M4
    have HS5 := Lib.hid (Below.refl w4.heap.size w4)
    go_wp2_with fail
    have hsx := HSX.out; have hsy := HSY.out; have tx := HT0.out; have ty := HT1.out; simp only [if_true, Bool.false_eq_true, if_false] at tx ty
    have RB5 := Lib.hid (below_drew0 w4)
    have QF5 := Lib.hid (show ∀ w', Below w4.heap.size w4 w' → w'.cell? ⟨w.heap.size + 1 + 1, 0, none⟩ = some (.int .i64 X0) ∧ w'.cell? ⟨w.heap.size + 1 + 1, 1, none⟩ = some (.int .i64 X1) ∧ w'.cell? ⟨w.heap.size, 0, none⟩ = some (.int .i64 a0_0) ∧ w'.cell? ⟨w.heap.size, 1, none⟩ = some (.int .i64 a0_1) ∧ w'.cell? ⟨w.heap.size + 1, 0, none⟩ = some (.int .i64 a1) ∧ w'.cell? ⟨w.heap.size + 1, 1, none⟩ = some (.int .i64 b1) from fun w' hb => ⟨(FM_5.out.below hb (Nat.le_refl _)).cell 0 (v := .int .i64 X0) rfl, (FM_5.out.below hb (Nat.le_refl _)).cell 1 (v := .int .i64 X1) rfl, (FA_5.out.below hb (Nat.le_refl _)).cell 0 (v := .int .i64 a0_0) rfl, (FA_5.out.below hb (Nat.le_refl _)).cell 1 (v := .int .i64 a0_1) rfl, (FQ_5.out.below hb (Nat.le_refl _)).cell 0 (v := .int .i64 a1) rfl, (FQ_5.out.below hb (Nat.le_refl _)).cell 1 (v := .int .i64 b1) rfl⟩)
    refine wp_region_held_drew (S := fun w' => w'.cell? ⟨w.heap.size + 1 + 1, 0, none⟩ = some (.int .i64 X0) ∧ w'.cell? ⟨w.heap.size + 1 + 1, 1, none⟩ = some (.int .i64 X1) ∧ w'.cell? ⟨w.heap.size, 0, none⟩ = some (.int .i64 a0_0) ∧ w'.cell? ⟨w.heap.size, 1, none⟩ = some (.int .i64 a0_1) ∧ w'.cell? ⟨w.heap.size + 1, 0, none⟩ = some (.int .i64 a1) ∧ w'.cell? ⟨w.heap.size + 1, 1, none⟩ = some (.int .i64 b1)) (by kernel_rfl) (QF5.out _ RB5.out) (fun hHeld => ?_)
    refine wpAnyH_take (i := 0) (v := ?_) (by simp only [List.getElem?_toArray, List.getElem?_cons_succ, List.getElem?_cons_zero]; rfl) (by kernel_rfl) (by kernel_rfl) (by kernel_rfl) (by intro _ _ _ h; exact h) (Or.inl ⟨by rfl, ?_⟩) hHeld ?_
    rotate_left 1
    · intro w hSw; (try dsimp only at hSw); go_simp; try with_reducible rfl
    try simp only [Act.put, List.setIfInBounds_toArray, List.set_cons_zero, List.set_cons_succ]
    refine wpAnyH_take (i := 1) (v := ?_) (by simp only [List.getElem?_toArray, List.getElem?_cons_succ, List.getElem?_cons_zero]; rfl) (by kernel_rfl) (by kernel_rfl) (by kernel_rfl) (by intro _ _ _ h; exact h) (Or.inl ⟨by rfl, ?_⟩) hHeld ?_
    rotate_left 1
    · intro w hSw; (try dsimp only at hSw); go_simp; try with_reducible rfl
    try simp only [Act.put, List.setIfInBounds_toArray, List.set_cons_zero, List.set_cons_succ]
    refine wpAnyH_take (i := 2) (v := ?_) (by simp only [List.getElem?_toArray, List.getElem?_cons_succ, List.getElem?_cons_zero]; rfl) (by kernel_rfl) (by kernel_rfl) (by kernel_rfl) (by intro _ _ _ h; exact h) (Or.inl ⟨by rfl, ?_⟩) hHeld ?_
    rotate_left 1
    · intro w hSw; (try dsimp only at hSw); go_simp; try with_reducible rfl
    try simp only [Act.put, List.setIfInBounds_toArray, List.set_cons_zero, List.set_cons_succ]
    refine wpAnyH_take (i := 3) (v := ?_) (by simp only [List.getElem?_toArray, List.getElem?_cons_succ, List.getElem?_cons_zero]; rfl) (by kernel_rfl) (by kernel_rfl) (by kernel_rfl) (by intro _ _ _ h; exact h) (Or.inl ⟨by rfl, ?_⟩) hHeld ?_
    rotate_left 1
    · intro w hSw; (try dsimp only at hSw); go_simp; try with_reducible rfl
    try simp only [Act.put, List.setIfInBounds_toArray, List.set_cons_zero, List.set_cons_succ]
    refine wpAnyH_take (i := 4) (v := ?_) (by simp only [List.getElem?_toArray, List.getElem?_cons_succ, List.getElem?_cons_zero]; rfl) (by kernel_rfl) (by kernel_rfl) (by kernel_rfl) (by intro _ _ _ h; exact h) (Or.inl ⟨by rfl, ?_⟩) hHeld ?_
    rotate_left 1
    · intro w hSw; (try dsimp only at hSw); go_simp; try with_reducible rfl
    try simp only [Act.put, List.setIfInBounds_toArray, List.set_cons_zero, List.set_cons_succ]
    refine wpAnyH_take (i := 5) (v := ?_) (by simp only [List.getElem?_toArray, List.getElem?_cons_succ, List.getElem?_cons_zero]; rfl) (by kernel_rfl) (by kernel_rfl) (by kernel_rfl) (by intro _ _ _ h; exact h) (Or.inl ⟨by rfl, ?_⟩) hHeld ?_
    rotate_left 1
    · intro w hSw; (try dsimp only at hSw); go_simp; try with_reducible rfl
    try simp only [Act.put, List.setIfInBounds_toArray, List.set_cons_zero, List.set_cons_succ]
    refine wpAnyH_take (i := 6) (v := ?_) (by simp only [List.getElem?_toArray, List.getElem?_cons_succ, List.getElem?_cons_zero]; rfl) (by kernel_rfl) (by kernel_rfl) (by kernel_rfl) (by intro _ _ _ h; exact h) (Or.inl ⟨by rfl, ?_⟩) hHeld ?_
    rotate_left 1
    · intro w hSw; (try dsimp only at hSw); go_simp; try with_reducible rfl
    try simp only [Act.put, List.setIfInBounds_toArray, List.set_cons_zero, List.set_cons_succ]
    refine wpAnyH_take (i := 7) (v := ?_) (by simp only [List.getElem?_toArray, List.getElem?_cons_succ, List.getElem?_cons_zero]; rfl) (by kernel_rfl) (by kernel_rfl) (by kernel_rfl) (by intro _ _ _ h; exact h) (Or.inl ⟨by rfl, ?_⟩) hHeld ?_
    rotate_left 1
    · intro w hSw; (try dsimp only at hSw); go_simp; try with_reducible rfl
    try simp only [Act.put, List.setIfInBounds_toArray, List.set_cons_zero, List.set_cons_succ]
    refine wpAnyH_take (i := 8) (v := ?_) (by simp only [List.getElem?_toArray, List.getElem?_cons_succ, List.getElem?_cons_zero]; rfl) (by kernel_rfl) (by kernel_rfl) (by kernel_rfl) (by intro _ _ _ h; exact h) (Or.inl ⟨by rfl, ?_⟩) hHeld ?_
    rotate_left 1
    · intro w hSw; (try dsimp only at hSw); go_simp; try with_reducible rfl
    try simp only [Act.put, List.setIfInBounds_toArray, List.set_cons_zero, List.set_cons_succ]
    refine wpAnyH_take (i := 9) (v := ?_) (by simp only [List.getElem?_toArray, List.getElem?_cons_succ, List.getElem?_cons_zero]; rfl) (by kernel_rfl) (by kernel_rfl) (by kernel_rfl) (by intro _ _ _ h; exact h) (Or.inl ⟨by rfl, ?_⟩) hHeld ?_
    rotate_left 1
    · intro w hSw; (try dsimp only at hSw); go_simp; try with_reducible rfl
    try simp only [Act.put, List.setIfInBounds_toArray, List.set_cons_zero, List.set_cons_succ]
    refine wpAnyH_take (i := 10) (v := ?_) (by simp only [List.getElem?_toArray, List.getElem?_cons_succ, List.getElem?_cons_zero]; rfl) (by kernel_rfl) (by kernel_rfl) (by kernel_rfl) (by intro _ _ _ h; exact h) (Or.inl ⟨by rfl, ?_⟩) hHeld ?_
    rotate_left 1
    · intro w hSw; (try dsimp only at hSw); go_simp; try with_reducible rfl
    try simp only [Act.put, List.setIfInBounds_toArray, List.set_cons_zero, List.set_cons_succ]
    refine wpAnyH_take (i := 11) (v := ?_) (by simp only [List.getElem?_toArray, List.getElem?_cons_succ, List.getElem?_cons_zero]; rfl) (by kernel_rfl) (by kernel_rfl) (by kernel_rfl) (by intro _ _ _ h; exact h) (Or.inl ⟨by rfl, ?_⟩) hHeld ?_
    rotate_left 1
    · intro w hSw; (try dsimp only at hSw); go_simp; try with_reducible rfl
    try simp only [Act.put, List.setIfInBounds_toArray, List.set_cons_zero, List.set_cons_succ]
    refine wpAnyH_take (i := 12) (v := ?_) (by simp only [List.getElem?_toArray, List.getElem?_cons_succ, List.getElem?_cons_zero]; rfl) (by kernel_rfl) (by kernel_rfl) (by kernel_rfl) (by intro _ _ _ h; exact h) (Or.inl ⟨by rfl, ?_⟩) hHeld ?_
    rotate_left 1
    · intro w hSw; (try dsimp only at hSw); go_simp; try with_reducible rfl
    try simp only [Act.put, List.setIfInBounds_toArray, List.set_cons_zero, List.set_cons_succ]
    refine wpAnyH_take (i := 13) (v := ?_) (by simp only [List.getElem?_toArray, List.getElem?_cons_succ, List.getElem?_cons_zero]; rfl) (by kernel_rfl) (by kernel_rfl) (by kernel_rfl) (by intro _ _ _ h; exact h) (Or.inl ⟨by rfl, ?_⟩) hHeld ?_
    rotate_left 1
    · intro w hSw; (try dsimp only at hSw); go_simp; try with_reducible rfl
    try simp only [Act.put, List.setIfInBounds_toArray, List.set_cons_zero, List.set_cons_succ]
    refine wpAnyH_take (i := 14) (v := undef) (by simp only [List.getElem?_toArray, List.getElem?_cons_succ, List.getElem?_cons_zero]; rfl) (by kernel_rfl) (by kernel_rfl) (by kernel_rfl) (by intro _ _ _ h; exact h) (Or.inr ⟨by rfl, rfl⟩) hHeld ?_
    try simp only [Act.put, List.setIfInBounds_toArray, List.set_cons_zero, List.set_cons_succ]
    refine wpAnyH_take (i := 15) (v := undef) (by simp only [List.getElem?_toArray, List.getElem?_cons_succ, List.getElem?_cons_zero]; rfl) (by kernel_rfl) (by kernel_rfl) (by kernel_rfl) (by intro _ _ _ h; exact h) (Or.inr ⟨by rfl, rfl⟩) hHeld ?_
    try simp only [Act.put, List.setIfInBounds_toArray, List.set_cons_zero, List.set_cons_succ]
    refine wpAnyH_take (i := 16) (v := undef) (by simp only [List.getElem?_toArray, List.getElem?_cons_succ, List.getElem?_cons_zero]; rfl) (by kernel_rfl) (by kernel_rfl) (by kernel_rfl) (by intro _ _ _ h; exact h) (Or.inr ⟨by rfl, rfl⟩) hHeld ?_
    try simp only [Act.put, List.setIfInBounds_toArray, List.set_cons_zero, List.set_cons_succ]
    refine wpAnyH_take (i := 17) (v := undef) (by simp only [List.getElem?_toArray, List.getElem?_cons_succ, List.getElem?_cons_zero]; rfl) (by kernel_rfl) (by kernel_rfl) (by kernel_rfl) (by intro _ _ _ h; exact h) (Or.inr ⟨by rfl, rfl⟩) hHeld ?_
    try simp only [Act.put, List.setIfInBounds_toArray, List.set_cons_zero, List.set_cons_succ]
    refine wpAnyH_take (i := 18) (v := undef) (by simp only [List.getElem?_toArray, List.getElem?_cons_succ, List.getElem?_cons_zero]; rfl) (by kernel_rfl) (by kernel_rfl) (by kernel_rfl) (by intro _ _ _ h; exact h) (Or.inr ⟨by rfl, rfl⟩) hHeld ?_
    try simp only [Act.put, List.setIfInBounds_toArray, List.set_cons_zero, List.set_cons_succ]
    refine wpAnyH_take (i := 19) (v := undef) (by simp only [List.getElem?_toArray, List.getElem?_cons_succ, List.getElem?_cons_zero]; rfl) (by kernel_rfl) (by kernel_rfl) (by kernel_rfl) (by intro _ _ _ h; exact h) (Or.inr ⟨by rfl, rfl⟩) hHeld ?_
    try simp only [Act.put, List.setIfInBounds_toArray, List.set_cons_zero, List.set_cons_succ]
    refine wpAnyH_take (i := 20) (v := undef) (by simp only [List.getElem?_toArray, List.getElem?_cons_succ, List.getElem?_cons_zero]; rfl) (by kernel_rfl) (by kernel_rfl) (by kernel_rfl) (by intro _ _ _ h; exact h) (Or.inr ⟨by rfl, rfl⟩) hHeld ?_
    try simp only [Act.put, List.setIfInBounds_toArray, List.set_cons_zero, List.set_cons_succ]
    refine wpAnyH_take (i := 21) (v := undef) (by simp only [List.getElem?_toArray, List.getElem?_cons_succ, List.getElem?_cons_zero]; rfl) (by kernel_rfl) (by kernel_rfl) (by kernel_rfl) (by intro _ _ _ h; exact h) (Or.inr ⟨by rfl, rfl⟩) hHeld ?_
    try simp only [Act.put, List.setIfInBounds_toArray, List.set_cons_zero, List.set_cons_succ]
    refine wpAnyH_take (i := 22) (v := undef) (by simp only [List.getElem?_toArray, List.getElem?_cons_succ, List.getElem?_cons_zero]; rfl) (by kernel_rfl) (by kernel_rfl) (by kernel_rfl) (by intro _ _ _ h; exact h) (Or.inr ⟨by rfl, rfl⟩) hHeld ?_
    try simp only [Act.put, List.setIfInBounds_toArray, List.set_cons_zero, List.set_cons_succ]
    refine wpAnyH_take (i := 23) (v := undef) (by simp only [List.getElem?_toArray, List.getElem?_cons_succ, List.getElem?_cons_zero]; rfl) (by kernel_rfl) (by kernel_rfl) (by kernel_rfl) (by intro _ _ _ h; exact h) (Or.inr ⟨by rfl, rfl⟩) hHeld ?_
    try simp only [Act.put, List.setIfInBounds_toArray, List.set_cons_zero, List.set_cons_succ]
    refine wpAnyH_take (i := 24) (v := undef) (by simp only [List.getElem?_toArray, List.getElem?_cons_succ, List.getElem?_cons_zero]; rfl) (by kernel_rfl) (by kernel_rfl) (by kernel_rfl) (by intro _ _ _ h; exact h) (Or.inr ⟨by rfl, rfl⟩) hHeld ?_
    try simp only [Act.put, List.setIfInBounds_toArray, List.set_cons_zero, List.set_cons_succ]
    refine wpAnyH_take (i := 25) (v := undef) (by simp only [List.getElem?_toArray, List.getElem?_cons_succ, List.getElem?_cons_zero]; rfl) (by kernel_rfl) (by kernel_rfl) (by kernel_rfl) (by intro _ _ _ h; exact h) (Or.inr ⟨by rfl, rfl⟩) hHeld ?_
    try simp only [Act.put, List.setIfInBounds_toArray, List.set_cons_zero, List.set_cons_succ]
    refine wpAnyH_take (i := 26) (v := undef) (by simp only [List.getElem?_toArray, List.getElem?_cons_succ, List.getElem?_cons_zero]; rfl) (by kernel_rfl) (by kernel_rfl) (by kernel_rfl) (by intro _ _ _ h; exact h) (Or.inr ⟨by rfl, rfl⟩) hHeld ?_
    try simp only [Act.put, List.setIfInBounds_toArray, List.set_cons_zero, List.set_cons_succ]
    refine wpAnyH_take (i := 27) (v := ?_) (by simp only [List.getElem?_toArray, List.getElem?_cons_succ, List.getElem?_cons_zero]; rfl) (by kernel_rfl) (by kernel_rfl) (by kernel_rfl) (by intro _ _ _ h; exact h) (Or.inl ⟨by rfl, ?_⟩) hHeld ?_
    rotate_left 1
    · intro w hSw; (try dsimp only at hSw); go_simp; try with_reducible rfl
    try simp only [Act.put, List.setIfInBounds_toArray, List.set_cons_zero, List.set_cons_succ]
    refine wpAnyH_done (by kernel_rfl) ?_ _
    have FT_6 := Lib.hid (FT_5.out.below RB5.out (Nat.le_refl _))
    have FA_6 := Lib.hid (FA_5.out.below RB5.out (Nat.le_refl _))
    have FQ_6 := Lib.hid (FQ_5.out.below RB5.out (Nat.le_refl _))
    have FM_6 := Lib.hid (FM_5.out.below RB5.out (Nat.le_refl _))
    have HB6 := Lib.hid (HS5.out.trans (RB5.out.mono HS5.out.size))
    clear hHeld HS5 FT_5 FA_5 FQ_5 FM_5
    clear QF5 RB5; generalize w4.drew = w6 at *
    clear hsx hsy tx ty
    go_wp2_with fail
    refine (alive7 _ FT_6.out).mono ?_
    rintro e w7 ⟨rfl, B⟩
    have HB7 := Lib.hid (HB6.out.trans (B.mono HB6.out.size))
    have FT_7 := Lib.hid (FT_6.out.below B (Nat.le_refl _))
    have FA_7 := Lib.hid (FA_6.out.below B (Nat.le_refl _))
    have FQ_7 := Lib.hid (FQ_6.out.below B (Nat.le_refl _))
    have FM_7 := Lib.hid (FM_6.out.below B (Nat.le_refl _))
    clear B  HB6 FT_6 FA_6 FQ_6 FM_6
    have HE := Lib.hid (HB1.out.trans ((C4.out.trans (HB7.out.mono C4.out.size)).mono HB1.out.size))
    go_wp2_with fail
    go_ret
    exact ⟨rfl, HE.out⟩
  cases g1
  · have FT_5 := Lib.hid (FT_1.out.below C4.out (Nat.le_refl _))
    have FA_5 := Lib.hid (FA_1.out.below C4.out (Nat.le_refl _))
    have FQ_5 := Lib.hid (FQ_1.out.below C4.out (Nat.le_refl _))
    have FM_5 := M4
    have HS5 := Lib.hid (Below.refl w4.heap.size w4)
    go_wp2_with fail
    have hsx := HSX.out; have hsy := HSY.out; have tx := HT0.out; have ty := HT1.out; simp only [if_true, Bool.false_eq_true, if_false] at tx ty
    have RB5 := Lib.hid (below_drew0 w4)
    have QF5 := Lib.hid (show ∀ w', Below w4.heap.size w4 w' → w'.cell? ⟨w.heap.size + 1 + 1, 0, none⟩ = some (.int .i64 X0) ∧ w'.cell? ⟨w.heap.size + 1 + 1, 1, none⟩ = some (.int .i64 X1) ∧ w'.cell? ⟨w.heap.size, 0, none⟩ = some (.int .i64 a0_0) ∧ w'.cell? ⟨w.heap.size, 1, none⟩ = some (.int .i64 a0_1) ∧ w'.cell? ⟨w.heap.size + 1, 0, none⟩ = some (.int .i64 a1) ∧ w'.cell? ⟨w.heap.size + 1, 1, none⟩ = some (.int .i64 b1) from fun w' hb => ⟨(FM_5.out.below hb (Nat.le_refl _)).cell 0 (v := .int .i64 X0) rfl, (FM_5.out.below hb (Nat.le_refl _)).cell 1 (v := .int .i64 X1) rfl, (FA_5.out.below hb (Nat.le_refl _)).cell 0 (v := .int .i64 a0_0) rfl, (FA_5.out.below hb (Nat.le_refl _)).cell 1 (v := .int .i64 a0_1) rfl, (FQ_5.out.below hb (Nat.le_refl _)).cell 0 (v := .int .i64 a1) rfl, (FQ_5.out.below hb (Nat.le_refl _)).cell 1 (v := .int .i64 b1) rfl⟩)
    refine wp_region_held_drew (S := fun w' => w'.cell? ⟨w.heap.size + 1 + 1, 0, none⟩ = some (.int .i64 X0) ∧ w'.cell? ⟨w.heap.size + 1 + 1, 1, none⟩ = some (.int .i64 X1) ∧ w'.cell? ⟨w.heap.size, 0, none⟩ = some (.int .i64 a0_0) ∧ w'.cell? ⟨w.heap.size, 1, none⟩ = some (.int .i64 a0_1) ∧ w'.cell? ⟨w.heap.size + 1, 0, none⟩ = some (.int .i64 a1) ∧ w'.cell? ⟨w.heap.size + 1, 1, none⟩ = some (.int .i64 b1)) (by kernel_rfl) (QF5.out _ RB5.out) (fun hHeld => ?_)
    refine wpAnyH_take (i := 0) (v := ?_) (by simp only [List.getElem?_toArray, List.getElem?_cons_succ, List.getElem?_cons_zero]; rfl) (by kernel_rfl) (by kernel_rfl) (by kernel_rfl) (by intro _ _ _ h; exact h) (Or.inl ⟨by rfl, ?_⟩) hHeld ?_
    rotate_left 1
    · intro w hSw; (try dsimp only at hSw); go_simp; try with_reducible rfl
    try simp only [Act.put, List.setIfInBounds_toArray, List.set_cons_zero, List.set_cons_succ]
    refine wpAnyH_take (i := 1) (v := ?_) (by simp only [List.getElem?_toArray, List.getElem?_cons_succ, List.getElem?_cons_zero]; rfl) (by kernel_rfl) (by kernel_rfl) (by kernel_rfl) (by intro _ _ _ h; exact h) (Or.inl ⟨by rfl, ?_⟩) hHeld ?_
    rotate_left 1
    · intro w hSw; (try dsimp only at hSw); go_simp; try with_reducible rfl
    try simp only [Act.put, List.setIfInBounds_toArray, List.set_cons_zero, List.set_cons_succ]
    refine wpAnyH_take (i := 2) (v := ?_) (by simp only [List.getElem?_toArray, List.getElem?_cons_succ, List.getElem?_cons_zero]; rfl) (by kernel_rfl) (by kernel_rfl) (by kernel_rfl) (by intro _ _ _ h; exact h) (Or.inl ⟨by rfl, ?_⟩) hHeld ?_
    rotate_left 1
    · intro w hSw; (try dsimp only at hSw); go_simp; try with_reducible rfl
    try simp only [Act.put, List.setIfInBounds_toArray, List.set_cons_zero, List.set_cons_succ]
    refine wpAnyH_take (i := 3) (v := ?_) (by simp only [List.getElem?_toArray, List.getElem?_cons_succ, List.getElem?_cons_zero]; rfl) (by kernel_rfl) (by kernel_rfl) (by kernel_rfl) (by intro _ _ _ h; exact h) (Or.inl ⟨by rfl, ?_⟩) hHeld ?_
    rotate_left 1
    · intro w hSw; (try dsimp only at hSw); go_simp; try with_reducible rfl
    try simp only [Act.put, List.setIfInBounds_toArray, List.set_cons_zero, List.set_cons_succ]
    refine wpAnyH_take (i := 4) (v := ?_) (by simp only [List.getElem?_toArray, List.getElem?_cons_succ, List.getElem?_cons_zero]; rfl) (by kernel_rfl) (by kernel_rfl) (by kernel_rfl) (by intro _ _ _ h; exact h) (Or.inl ⟨by rfl, ?_⟩) hHeld ?_
    rotate_left 1
    · intro w hSw; (try dsimp only at hSw); go_simp; try with_reducible rfl
    try simp only [Act.put, List.setIfInBounds_toArray, List.set_cons_zero, List.set_cons_succ]
    refine wpAnyH_take (i := 5) (v := ?_) (by simp only [List.getElem?_toArray, List.getElem?_cons_succ, List.getElem?_cons_zero]; rfl) (by kernel_rfl) (by kernel_rfl) (by kernel_rfl) (by intro _ _ _ h; exact h) (Or.inl ⟨by rfl, ?_⟩) hHeld ?_
    rotate_left 1
    · intro w hSw; (try dsimp only at hSw); go_simp; try with_reducible rfl
    try simp only [Act.put, List.setIfInBounds_toArray, List.set_cons_zero, List.set_cons_succ]
    refine wpAnyH_take (i := 6) (v := ?_) (by simp only [List.getElem?_toArray, List.getElem?_cons_succ, List.getElem?_cons_zero]; rfl) (by kernel_rfl) (by kernel_rfl) (by kernel_rfl) (by intro _ _ _ h; exact h) (Or.inl ⟨by rfl, ?_⟩) hHeld ?_
    rotate_left 1
    · intro w hSw; (try dsimp only at hSw); go_simp; try with_reducible rfl
    try simp only [Act.put, List.setIfInBounds_toArray, List.set_cons_zero, List.set_cons_succ]
    refine wpAnyH_take (i := 7) (v := ?_) (by simp only [List.getElem?_toArray, List.getElem?_cons_succ, List.getElem?_cons_zero]; rfl) (by kernel_rfl) (by kernel_rfl) (by kernel_rfl) (by intro _ _ _ h; exact h) (Or.inl ⟨by rfl, ?_⟩) hHeld ?_
    rotate_left 1
    · intro w hSw; (try dsimp only at hSw); go_simp; try with_reducible rfl
    try simp only [Act.put, List.setIfInBounds_toArray, List.set_cons_zero, List.set_cons_succ]
    refine wpAnyH_take (i := 8) (v := ?_) (by simp only [List.getElem?_toArray, List.getElem?_cons_succ, List.getElem?_cons_zero]; rfl) (by kernel_rfl) (by kernel_rfl) (by kernel_rfl) (by intro _ _ _ h; exact h) (Or.inl ⟨by rfl, ?_⟩) hHeld ?_
    rotate_left 1
    · intro w hSw; (try dsimp only at hSw); go_simp; try with_reducible rfl
    try simp only [Act.put, List.setIfInBounds_toArray, List.set_cons_zero, List.set_cons_succ]
    refine wpAnyH_take (i := 9) (v := ?_) (by simp only [List.getElem?_toArray, List.getElem?_cons_succ, List.getElem?_cons_zero]; rfl) (by kernel_rfl) (by kernel_rfl) (by kernel_rfl) (by intro _ _ _ h; exact h) (Or.inl ⟨by rfl, ?_⟩) hHeld ?_
    rotate_left 1
    · intro w hSw; (try dsimp only at hSw); go_simp; try with_reducible rfl
    try simp only [Act.put, List.setIfInBounds_toArray, List.set_cons_zero, List.set_cons_succ]
    refine wpAnyH_take (i := 10) (v := ?_) (by simp only [List.getElem?_toArray, List.getElem?_cons_succ, List.getElem?_cons_zero]; rfl) (by kernel_rfl) (by kernel_rfl) (by kernel_rfl) (by intro _ _ _ h; exact h) (Or.inl ⟨by rfl, ?_⟩) hHeld ?_
    rotate_left 1
    · intro w hSw; (try dsimp only at hSw); go_simp; try with_reducible rfl
    try simp only [Act.put, List.setIfInBounds_toArray, List.set_cons_zero, List.set_cons_succ]
    refine wpAnyH_take (i := 11) (v := ?_) (by simp only [List.getElem?_toArray, List.getElem?_cons_succ, List.getElem?_cons_zero]; rfl) (by kernel_rfl) (by kernel_rfl) (by kernel_rfl) (by intro _ _ _ h; exact h) (Or.inl ⟨by rfl, ?_⟩) hHeld ?_
    rotate_left 1
    · intro w hSw; (try dsimp only at hSw); go_simp; try with_reducible rfl
    try simp only [Act.put, List.setIfInBounds_toArray, List.set_cons_zero, List.set_cons_succ]
    refine wpAnyH_take (i := 12) (v := ?_) (by simp only [List.getElem?_toArray, List.getElem?_cons_succ, List.getElem?_cons_zero]; rfl) (by kernel_rfl) (by kernel_rfl) (by kernel_rfl) (by intro _ _ _ h; exact h) (Or.inl ⟨by rfl, ?_⟩) hHeld ?_
    rotate_left 1
    · intro w hSw; (try dsimp only at hSw); go_simp; try with_reducible rfl
    try simp only [Act.put, List.setIfInBounds_toArray, List.set_cons_zero, List.set_cons_succ]
    refine wpAnyH_take (i := 13) (v := ?_) (by simp only [List.getElem?_toArray, List.getElem?_cons_succ, List.getElem?_cons_zero]; rfl) (by kernel_rfl) (by kernel_rfl) (by kernel_rfl) (by intro _ _ _ h; exact h) (Or.inl ⟨by rfl, ?_⟩) hHeld ?_
    rotate_left 1
    · intro w hSw; (try dsimp only at hSw); go_simp; try with_reducible rfl
    try simp only [Act.put, List.setIfInBounds_toArray, List.set_cons_zero, List.set_cons_succ]
    refine wpAnyH_take (i := 14) (v := ?_) (by simp only [List.getElem?_toArray, List.getElem?_cons_succ, List.getElem?_cons_zero]; rfl) (by kernel_rfl) (by kernel_rfl) (by kernel_rfl) (by intro _ _ _ h; exact h) (Or.inl ⟨by rfl, ?_⟩) hHeld ?_
    rotate_left 1
    · intro w hSw; (try dsimp only at hSw); go_simp; try with_reducible rfl
    try simp only [Act.put, List.setIfInBounds_toArray, List.set_cons_zero, List.set_cons_succ]
    refine wpAnyH_take (i := 15) (v := ?_) (by simp only [List.getElem?_toArray, List.getElem?_cons_succ, List.getElem?_cons_zero]; rfl) (by kernel_rfl) (by kernel_rfl) (by kernel_rfl) (by intro _ _ _ h; exact h) (Or.inl ⟨by rfl, ?_⟩) hHeld ?_
    rotate_left 1
    · intro w hSw; (try dsimp only at hSw); go_simp; try with_reducible rfl
    try simp only [Act.put, List.setIfInBounds_toArray, List.set_cons_zero, List.set_cons_succ]
    refine wpAnyH_take (i := 16) (v := ?_) (by simp only [List.getElem?_toArray, List.getElem?_cons_succ, List.getElem?_cons_zero]; rfl) (by kernel_rfl) (by kernel_rfl) (by kernel_rfl) (by intro _ _ _ h; exact h) (Or.inl ⟨by rfl, ?_⟩) hHeld ?_
    rotate_left 1
    · intro w hSw; (try dsimp only at hSw); go_simp; try with_reducible rfl
    try simp only [Act.put, List.setIfInBounds_toArray, List.set_cons_zero, List.set_cons_succ]
    refine wpAnyH_take (i := 17) (v := ?_) (by simp only [List.getElem?_toArray, List.getElem?_cons_succ, List.getElem?_cons_zero]; rfl) (by kernel_rfl) (by kernel_rfl) (by kernel_rfl) (by intro _ _ _ h; exact h) (Or.inl ⟨by rfl, ?_⟩) hHeld ?_
    rotate_left 1
    · intro w hSw; (try dsimp only at hSw); go_simp; try with_reducible rfl
    try simp only [Act.put, List.setIfInBounds_toArray, List.set_cons_zero, List.set_cons_succ]
    refine wpAnyH_take (i := 18) (v := ?_) (by simp only [List.getElem?_toArray, List.getElem?_cons_succ, List.getElem?_cons_zero]; rfl) (by kernel_rfl) (by kernel_rfl) (by kernel_rfl) (by intro _ _ _ h; exact h) (Or.inl ⟨by rfl, ?_⟩) hHeld ?_
    rotate_left 1
    · intro w hSw; (try dsimp only at hSw); go_simp; try with_reducible rfl
    try simp only [Act.put, List.setIfInBounds_toArray, List.set_cons_zero, List.set_cons_succ]
    refine wpAnyH_take (i := 19) (v := ?_) (by simp only [List.getElem?_toArray, List.getElem?_cons_succ, List.getElem?_cons_zero]; rfl) (by kernel_rfl) (by kernel_rfl) (by kernel_rfl) (by intro _ _ _ h; exact h) (Or.inl ⟨by rfl, ?_⟩) hHeld ?_
    rotate_left 1
    · intro w hSw; (try dsimp only at hSw); go_simp; try with_reducible rfl
    try simp only [Act.put, List.setIfInBounds_toArray, List.set_cons_zero, List.set_cons_succ]
    refine wpAnyH_take (i := 20) (v := ?_) (by simp only [List.getElem?_toArray, List.getElem?_cons_succ, List.getElem?_cons_zero]; rfl) (by kernel_rfl) (by kernel_rfl) (by kernel_rfl) (by intro _ _ _ h; exact h) (Or.inl ⟨by rfl, ?_⟩) hHeld ?_
    rotate_left 1
    · intro w hSw; (try dsimp only at hSw); go_simp; try with_reducible rfl
    try simp only [Act.put, List.setIfInBounds_toArray, List.set_cons_zero, List.set_cons_succ]
    refine wpAnyH_take (i := 21) (v := ?_) (by simp only [List.getElem?_toArray, List.getElem?_cons_succ, List.getElem?_cons_zero]; rfl) (by kernel_rfl) (by kernel_rfl) (by kernel_rfl) (by intro _ _ _ h; exact h) (Or.inl ⟨by rfl, ?_⟩) hHeld ?_
    rotate_left 1
    · intro w hSw; (try dsimp only at hSw); go_simp; try with_reducible rfl
    try simp only [Act.put, List.setIfInBounds_toArray, List.set_cons_zero, List.set_cons_succ]
    refine wpAnyH_take (i := 22) (v := ?_) (by simp only [List.getElem?_toArray, List.getElem?_cons_succ, List.getElem?_cons_zero]; rfl) (by kernel_rfl) (by kernel_rfl) (by kernel_rfl) (by intro _ _ _ h; exact h) (Or.inl ⟨by rfl, ?_⟩) hHeld ?_
    rotate_left 1
    · intro w hSw; (try dsimp only at hSw); go_simp; try with_reducible rfl
    try simp only [Act.put, List.setIfInBounds_toArray, List.set_cons_zero, List.set_cons_succ]
    refine wpAnyH_take (i := 23) (v := ?_) (by simp only [List.getElem?_toArray, List.getElem?_cons_succ, List.getElem?_cons_zero]; rfl) (by kernel_rfl) (by kernel_rfl) (by kernel_rfl) (by intro _ _ _ h; exact h) (Or.inl ⟨by rfl, ?_⟩) hHeld ?_
    rotate_left 1
    · intro w hSw; (try dsimp only at hSw); go_simp; try with_reducible rfl
    try simp only [Act.put, List.setIfInBounds_toArray, List.set_cons_zero, List.set_cons_succ]
    refine wpAnyH_take (i := 24) (v := ?_) (by simp only [List.getElem?_toArray, List.getElem?_cons_succ, List.getElem?_cons_zero]; rfl) (by kernel_rfl) (by kernel_rfl) (by kernel_rfl) (by intro _ _ _ h; exact h) (Or.inl ⟨by rfl, ?_⟩) hHeld ?_
    rotate_left 1
    · intro w hSw; (try dsimp only at hSw); go_simp; try with_reducible rfl
    try simp only [Act.put, List.setIfInBounds_toArray, List.set_cons_zero, List.set_cons_succ]
    refine wpAnyH_take (i := 25) (v := ?_) (by simp only [List.getElem?_toArray, List.getElem?_cons_succ, List.getElem?_cons_zero]; rfl) (by kernel_rfl) (by kernel_rfl) (by kernel_rfl) (by intro _ _ _ h; exact h) (Or.inl ⟨by rfl, ?_⟩) hHeld ?_
    rotate_left 1
    · intro w hSw; (try dsimp only at hSw); go_simp; try with_reducible rfl
    try simp only [Act.put, List.setIfInBounds_toArray, List.set_cons_zero, List.set_cons_succ]
    refine wpAnyH_take (i := 26) (v := ?_) (by simp only [List.getElem?_toArray, List.getElem?_cons_succ, List.getElem?_cons_zero]; rfl) (by kernel_rfl) (by kernel_rfl) (by kernel_rfl) (by intro _ _ _ h; exact h) (Or.inl ⟨by rfl, ?_⟩) hHeld ?_
    rotate_left 1
    · intro w hSw; (try dsimp only at hSw); go_simp; try with_reducible rfl
    try simp only [Act.put, List.setIfInBounds_toArray, List.set_cons_zero, List.set_cons_succ]
    refine wpAnyH_take (i := 27) (v := ?_) (by simp only [List.getElem?_toArray, List.getElem?_cons_succ, List.getElem?_cons_zero]; rfl) (by kernel_rfl) (by kernel_rfl) (by kernel_rfl) (by intro _ _ _ h; exact h) (Or.inl ⟨by rfl, ?_⟩) hHeld ?_
    rotate_left 1
    · intro w hSw; (try dsimp only at hSw); go_simp; try with_reducible rfl
    try simp only [Act.put, List.setIfInBounds_toArray, List.set_cons_zero, List.set_cons_succ]
    refine wpAnyH_done (by kernel_rfl) ?_ _
    have FT_6 := Lib.hid (FT_5.out.below RB5.out (Nat.le_refl _))
    have FA_6 := Lib.hid (FA_5.out.below RB5.out (Nat.le_refl _))
    have FQ_6 := Lib.hid (FQ_5.out.below RB5.out (Nat.le_refl _))
    have FM_6 := Lib.hid (FM_5.out.below RB5.out (Nat.le_refl _))
    have HB6 := Lib.hid (HS5.out.trans (RB5.out.mono HS5.out.size))
    clear hHeld HS5 FT_5 FA_5 FQ_5 FM_5
    clear QF5 RB5; generalize w4.drew = w6 at *
    clear hsx hsy tx ty
    go_wp2_with fail
    refine (alive7 _ FT_6.out).mono ?_
    rintro e w7 ⟨rfl, B⟩
    have HB7 := Lib.hid (HB6.out.trans (B.mono HB6.out.size))
    have FT_7 := Lib.hid (FT_6.out.below B (Nat.le_refl _))
    have FA_7 := Lib.hid (FA_6.out.below B (Nat.le_refl _))
    have FQ_7 := Lib.hid (FQ_6.out.below B (Nat.le_refl _))
    have FM_7 := Lib.hid (FM_6.out.below B (Nat.le_refl _))
    clear B  HB6 FT_6 FA_6 FQ_6 FM_6
    have HE := Lib.hid (HB1.out.trans ((C4.out.trans (HB7.out.mono C4.out.size)).mono HB1.out.size))
    go_wp2_with fail
    go_ret
    exact ⟨rfl, HE.out⟩
  · have FT_5 := Lib.hid (FT_1.out.below C4.out (Nat.le_refl _))
    have FA_5 := Lib.hid (FA_1.out.below C4.out (Nat.le_refl _))
    have FQ_5 := Lib.hid (FQ_1.out.below C4.out (Nat.le_refl _))
    have FM_5 := M4
    have HS5 := Lib.hid (Below.refl w4.heap.size w4)
    go_wp2_with fail
    have hsx := HSX.out; have hsy := HSY.out; have tx := HT0.out; have ty := HT1.out; simp only [if_true, Bool.false_eq_true, if_false] at tx ty
    have RB5 := Lib.hid (below_drew0 w4)
    have QF5 := Lib.hid (show ∀ w', Below w4.heap.size w4 w' → w'.cell? ⟨w.heap.size + 1 + 1, 0, none⟩ = some (.int .i64 X0) ∧ w'.cell? ⟨w.heap.size + 1 + 1, 1, none⟩ = some (.int .i64 X1) ∧ w'.cell? ⟨w.heap.size, 0, none⟩ = some (.int .i64 a0_0) ∧ w'.cell? ⟨w.heap.size, 1, none⟩ = some (.int .i64 a0_1) ∧ w'.cell? ⟨w.heap.size + 1, 0, none⟩ = some (.int .i64 a1) ∧ w'.cell? ⟨w.heap.size + 1, 1, none⟩ = some (.int .i64 b1) from fun w' hb => ⟨(FM_5.out.below hb (Nat.le_refl _)).cell 0 (v := .int .i64 X0) rfl, (FM_5.out.below hb (Nat.le_refl _)).cell 1 (v := .int .i64 X1) rfl, (FA_5.out.below hb (Nat.le_refl _)).cell 0 (v := .int .i64 a0_0) rfl, (FA_5.out.below hb (Nat.le_refl _)).cell 1 (v := .int .i64 a0_1) rfl, (FQ_5.out.below hb (Nat.le_refl _)).cell 0 (v := .int .i64 a1) rfl, (FQ_5.out.below hb (Nat.le_refl _)).cell 1 (v := .int .i64 b1) rfl⟩)
    refine wp_region_held_drew (S := fun w' => w'.cell? ⟨w.heap.size + 1 + 1, 0, none⟩ = some (.int .i64 X0) ∧ w'.cell? ⟨w.heap.size + 1 + 1, 1, none⟩ = some (.int .i64 X1) ∧ w'.cell? ⟨w.heap.size, 0, none⟩ = some (.int .i64 a0_0) ∧ w'.cell? ⟨w.heap.size, 1, none⟩ = some (.int .i64 a0_1) ∧ w'.cell? ⟨w.heap.size + 1, 0, none⟩ = some (.int .i64 a1) ∧ w'.cell? ⟨w.heap.size + 1, 1, none⟩ = some (.int .i64 b1)) (by kernel_rfl) (QF5.out _ RB5.out) (fun hHeld => ?_)
    refine wpAnyH_take (i := 0) (v := ?_) (by simp only [List.getElem?_toArray, List.getElem?_cons_succ, List.getElem?_cons_zero]; rfl) (by kernel_rfl) (by kernel_rfl) (by kernel_rfl) (by intro _ _ _ h; exact h) (Or.inl ⟨by rfl, ?_⟩) hHeld ?_
    rotate_left 1
    · intro w hSw; (try dsimp only at hSw); go_simp; try with_reducible rfl
    try simp only [Act.put, List.setIfInBounds_toArray, List.set_cons_zero, List.set_cons_succ]
    refine wpAnyH_take (i := 1) (v := ?_) (by simp only [List.getElem?_toArray, List.getElem?_cons_succ, List.getElem?_cons_zero]; rfl) (by kernel_rfl) (by kernel_rfl) (by kernel_rfl) (by intro _ _ _ h; exact h) (Or.inl ⟨by rfl, ?_⟩) hHeld ?_
    rotate_left 1
    · intro w hSw; (try dsimp only at hSw); go_simp; try with_reducible rfl
    try simp only [Act.put, List.setIfInBounds_toArray, List.set_cons_zero, List.set_cons_succ]
    refine wpAnyH_take (i := 2) (v := ?_) (by simp only [List.getElem?_toArray, List.getElem?_cons_succ, List.getElem?_cons_zero]; rfl) (by kernel_rfl) (by kernel_rfl) (by kernel_rfl) (by intro _ _ _ h; exact h) (Or.inl ⟨by rfl, ?_⟩) hHeld ?_
    rotate_left 1
    · intro w hSw; (try dsimp only at hSw); go_simp; try with_reducible rfl
    try simp only [Act.put, List.setIfInBounds_toArray, List.set_cons_zero, List.set_cons_succ]
    refine wpAnyH_take (i := 3) (v := ?_) (by simp only [List.getElem?_toArray, List.getElem?_cons_succ, List.getElem?_cons_zero]; rfl) (by kernel_rfl) (by kernel_rfl) (by kernel_rfl) (by intro _ _ _ h; exact h) (Or.inl ⟨by rfl, ?_⟩) hHeld ?_
    rotate_left 1
    · intro w hSw; (try dsimp only at hSw); go_simp; try with_reducible rfl
    try simp only [Act.put, List.setIfInBounds_toArray, List.set_cons_zero, List.set_cons_succ]
    refine wpAnyH_take (i := 4) (v := ?_) (by simp only [List.getElem?_toArray, List.getElem?_cons_succ, List.getElem?_cons_zero]; rfl) (by kernel_rfl) (by kernel_rfl) (by kernel_rfl) (by intro _ _ _ h; exact h) (Or.inl ⟨by rfl, ?_⟩) hHeld ?_
    rotate_left 1
    · intro w hSw; (try dsimp only at hSw); go_simp; try with_reducible rfl
    try simp only [Act.put, List.setIfInBounds_toArray, List.set_cons_zero, List.set_cons_succ]
    refine wpAnyH_take (i := 5) (v := ?_) (by simp only [List.getElem?_toArray, List.getElem?_cons_succ, List.getElem?_cons_zero]; rfl) (by kernel_rfl) (by kernel_rfl) (by kernel_rfl) (by intro _ _ _ h; exact h) (Or.inl ⟨by rfl, ?_⟩) hHeld ?_
    rotate_left 1
    · intro w hSw; (try dsimp only at hSw); go_simp; try with_reducible rfl
    try simp only [Act.put, List.setIfInBounds_toArray, List.set_cons_zero, List.set_cons_succ]
    refine wpAnyH_take (i := 6) (v := ?_) (by simp only [List.getElem?_toArray, List.getElem?_cons_succ, List.getElem?_cons_zero]; rfl) (by kernel_rfl) (by kernel_rfl) (by kernel_rfl) (by intro _ _ _ h; exact h) (Or.inl ⟨by rfl, ?_⟩) hHeld ?_
    rotate_left 1
    · intro w hSw; (try dsimp only at hSw); go_simp; try with_reducible rfl
    try simp only [Act.put, List.setIfInBounds_toArray, List.set_cons_zero, List.set_cons_succ]
    refine wpAnyH_take (i := 7) (v := ?_) (by simp only [List.getElem?_toArray, List.getElem?_cons_succ, List.getElem?_cons_zero]; rfl) (by kernel_rfl) (by kernel_rfl) (by kernel_rfl) (by intro _ _ _ h; exact h) (Or.inl ⟨by rfl, ?_⟩) hHeld ?_
    rotate_left 1
    · intro w hSw; (try dsimp only at hSw); go_simp; try with_reducible rfl
    try simp only [Act.put, List.setIfInBounds_toArray, List.set_cons_zero, List.set_cons_succ]
    refine wpAnyH_take (i := 8) (v := ?_) (by simp only [List.getElem?_toArray, List.getElem?_cons_succ, List.getElem?_cons_zero]; rfl) (by kernel_rfl) (by kernel_rfl) (by kernel_rfl) (by intro _ _ _ h; exact h) (Or.inl ⟨by rfl, ?_⟩) hHeld ?_
    rotate_left 1
    · intro w hSw; (try dsimp only at hSw); go_simp; try with_reducible rfl
    try simp only [Act.put, List.setIfInBounds_toArray, List.set_cons_zero, List.set_cons_succ]
    refine wpAnyH_take (i := 9) (v := ?_) (by simp only [List.getElem?_toArray, List.getElem?_cons_succ, List.getElem?_cons_zero]; rfl) (by kernel_rfl) (by kernel_rfl) (by kernel_rfl) (by intro _ _ _ h; exact h) (Or.inl ⟨by rfl, ?_⟩) hHeld ?_
    rotate_left 1
    · intro w hSw; (try dsimp only at hSw); go_simp; try with_reducible rfl
    try simp only [Act.put, List.setIfInBounds_toArray, List.set_cons_zero, List.set_cons_succ]
    refine wpAnyH_take (i := 10) (v := ?_) (by simp only [List.getElem?_toArray, List.getElem?_cons_succ, List.getElem?_cons_zero]; rfl) (by kernel_rfl) (by kernel_rfl) (by kernel_rfl) (by intro _ _ _ h; exact h) (Or.inl ⟨by rfl, ?_⟩) hHeld ?_
    rotate_left 1
    · intro w hSw; (try dsimp only at hSw); go_simp; try with_reducible rfl
    try simp only [Act.put, List.setIfInBounds_toArray, List.set_cons_zero, List.set_cons_succ]
    refine wpAnyH_take (i := 11) (v := ?_) (by simp only [List.getElem?_toArray, List.getElem?_cons_succ, List.getElem?_cons_zero]; rfl) (by kernel_rfl) (by kernel_rfl) (by kernel_rfl) (by intro _ _ _ h; exact h) (Or.inl ⟨by rfl, ?_⟩) hHeld ?_
    rotate_left 1
    · intro w hSw; (try dsimp only at hSw); go_simp; try with_reducible rfl
    try simp only [Act.put, List.setIfInBounds_toArray, List.set_cons_zero, List.set_cons_succ]
    refine wpAnyH_take (i := 12) (v := ?_) (by simp only [List.getElem?_toArray, List.getElem?_cons_succ, List.getElem?_cons_zero]; rfl) (by kernel_rfl) (by kernel_rfl) (by kernel_rfl) (by intro _ _ _ h; exact h) (Or.inl ⟨by rfl, ?_⟩) hHeld ?_
    rotate_left 1
    · intro w hSw; (try dsimp only at hSw); go_simp; try with_reducible rfl
    try simp only [Act.put, List.setIfInBounds_toArray, List.set_cons_zero, List.set_cons_succ]
    refine wpAnyH_take (i := 13) (v := ?_) (by simp only [List.getElem?_toArray, List.getElem?_cons_succ, List.getElem?_cons_zero]; rfl) (by kernel_rfl) (by kernel_rfl) (by kernel_rfl) (by intro _ _ _ h; exact h) (Or.inl ⟨by rfl, ?_⟩) hHeld ?_
    rotate_left 1
    · intro w hSw; (try dsimp only at hSw); go_simp; try with_reducible rfl
    try simp only [Act.put, List.setIfInBounds_toArray, List.set_cons_zero, List.set_cons_succ]
    refine wpAnyH_take (i := 14) (v := ?_) (by simp only [List.getElem?_toArray, List.getElem?_cons_succ, List.getElem?_cons_zero]; rfl) (by kernel_rfl) (by kernel_rfl) (by kernel_rfl) (by intro _ _ _ h; exact h) (Or.inl ⟨by rfl, ?_⟩) hHeld ?_
    rotate_left 1
    · intro w hSw; (try dsimp only at hSw); go_simp; try with_reducible rfl
    try simp only [Act.put, List.setIfInBounds_toArray, List.set_cons_zero, List.set_cons_succ]
    refine wpAnyH_take (i := 15) (v := ?_) (by simp only [List.getElem?_toArray, List.getElem?_cons_succ, List.getElem?_cons_zero]; rfl) (by kernel_rfl) (by kernel_rfl) (by kernel_rfl) (by intro _ _ _ h; exact h) (Or.inl ⟨by rfl, ?_⟩) hHeld ?_
    rotate_left 1
    · intro w hSw; (try dsimp only at hSw); go_simp; try with_reducible rfl
    try simp only [Act.put, List.setIfInBounds_toArray, List.set_cons_zero, List.set_cons_succ]
    refine wpAnyH_take (i := 16) (v := ?_) (by simp only [List.getElem?_toArray, List.getElem?_cons_succ, List.getElem?_cons_zero]; rfl) (by kernel_rfl) (by kernel_rfl) (by kernel_rfl) (by intro _ _ _ h; exact h) (Or.inl ⟨by rfl, ?_⟩) hHeld ?_
    rotate_left 1
    · intro w hSw; (try dsimp only at hSw); go_simp; try with_reducible rfl
    try simp only [Act.put, List.setIfInBounds_toArray, List.set_cons_zero, List.set_cons_succ]
    refine wpAnyH_take (i := 17) (v := ?_) (by simp only [List.getElem?_toArray, List.getElem?_cons_succ, List.getElem?_cons_zero]; rfl) (by kernel_rfl) (by kernel_rfl) (by kernel_rfl) (by intro _ _ _ h; exact h) (Or.inl ⟨by rfl, ?_⟩) hHeld ?_
    rotate_left 1
    · intro w hSw; (try dsimp only at hSw); go_simp; try with_reducible rfl
    try simp only [Act.put, List.setIfInBounds_toArray, List.set_cons_zero, List.set_cons_succ]
    refine wpAnyH_take (i := 18) (v := ?_) (by simp only [List.getElem?_toArray, List.getElem?_cons_succ, List.getElem?_cons_zero]; rfl) (by kernel_rfl) (by kernel_rfl) (by kernel_rfl) (by intro _ _ _ h; exact h) (Or.inl ⟨by rfl, ?_⟩) hHeld ?_
    rotate_left 1
    · intro w hSw; (try dsimp only at hSw); go_simp; try with_reducible rfl
    try simp only [Act.put, List.setIfInBounds_toArray, List.set_cons_zero, List.set_cons_succ]
    refine wpAnyH_take (i := 19) (v := ?_) (by simp only [List.getElem?_toArray, List.getElem?_cons_succ, List.getElem?_cons_zero]; rfl) (by kernel_rfl) (by kernel_rfl) (by kernel_rfl) (by intro _ _ _ h; exact h) (Or.inl ⟨by rfl, ?_⟩) hHeld ?_
    rotate_left 1
    · intro w hSw; (try dsimp only at hSw); go_simp; try with_reducible rfl
    try simp only [Act.put, List.setIfInBounds_toArray, List.set_cons_zero, List.set_cons_succ]
    refine wpAnyH_take (i := 20) (v := ?_) (by simp only [List.getElem?_toArray, List.getElem?_cons_succ, List.getElem?_cons_zero]; rfl) (by kernel_rfl) (by kernel_rfl) (by kernel_rfl) (by intro _ _ _ h; exact h) (Or.inl ⟨by rfl, ?_⟩) hHeld ?_
    rotate_left 1
    · intro w hSw; (try dsimp only at hSw); go_simp; try with_reducible rfl
    try simp only [Act.put, List.setIfInBounds_toArray, List.set_cons_zero, List.set_cons_succ]
    refine wpAnyH_take (i := 21) (v := ?_) (by simp only [List.getElem?_toArray, List.getElem?_cons_succ, List.getElem?_cons_zero]; rfl) (by kernel_rfl) (by kernel_rfl) (by kernel_rfl) (by intro _ _ _ h; exact h) (Or.inl ⟨by rfl, ?_⟩) hHeld ?_
    rotate_left 1
    · intro w hSw; (try dsimp only at hSw); go_simp; try with_reducible rfl
    try simp only [Act.put, List.setIfInBounds_toArray, List.set_cons_zero, List.set_cons_succ]
    refine wpAnyH_take (i := 22) (v := ?_) (by simp only [List.getElem?_toArray, List.getElem?_cons_succ, List.getElem?_cons_zero]; rfl) (by kernel_rfl) (by kernel_rfl) (by kernel_rfl) (by intro _ _ _ h; exact h) (Or.inl ⟨by rfl, ?_⟩) hHeld ?_
    rotate_left 1
    · intro w hSw; (try dsimp only at hSw); go_simp; try with_reducible rfl
    try simp only [Act.put, List.setIfInBounds_toArray, List.set_cons_zero, List.set_cons_succ]
    refine wpAnyH_take (i := 23) (v := ?_) (by simp only [List.getElem?_toArray, List.getElem?_cons_succ, List.getElem?_cons_zero]; rfl) (by kernel_rfl) (by kernel_rfl) (by kernel_rfl) (by intro _ _ _ h; exact h) (Or.inl ⟨by rfl, ?_⟩) hHeld ?_
    rotate_left 1
    · intro w hSw; (try dsimp only at hSw); go_simp; try with_reducible rfl
    try simp only [Act.put, List.setIfInBounds_toArray, List.set_cons_zero, List.set_cons_succ]
    refine wpAnyH_take (i := 24) (v := ?_) (by simp only [List.getElem?_toArray, List.getElem?_cons_succ, List.getElem?_cons_zero]; rfl) (by kernel_rfl) (by kernel_rfl) (by kernel_rfl) (by intro _ _ _ h; exact h) (Or.inl ⟨by rfl, ?_⟩) hHeld ?_
    rotate_left 1
    · intro w hSw; (try dsimp only at hSw); go_simp; try with_reducible rfl
    try simp only [Act.put, List.setIfInBounds_toArray, List.set_cons_zero, List.set_cons_succ]
    refine wpAnyH_take (i := 25) (v := ?_) (by simp only [List.getElem?_toArray, List.getElem?_cons_succ, List.getElem?_cons_zero]; rfl) (by kernel_rfl) (by kernel_rfl) (by kernel_rfl) (by intro _ _ _ h; exact h) (Or.inl ⟨by rfl, ?_⟩) hHeld ?_
    rotate_left 1
    · intro w hSw; (try dsimp only at hSw); go_simp; try with_reducible rfl
    try simp only [Act.put, List.setIfInBounds_toArray, List.set_cons_zero, List.set_cons_succ]
    refine wpAnyH_take (i := 26) (v := ?_) (by simp only [List.getElem?_toArray, List.getElem?_cons_succ, List.getElem?_cons_zero]; rfl) (by kernel_rfl) (by kernel_rfl) (by kernel_rfl) (by intro _ _ _ h; exact h) (Or.inl ⟨by rfl, ?_⟩) hHeld ?_
    rotate_left 1
    · intro w hSw; (try dsimp only at hSw); go_simp; try with_reducible rfl
    try simp only [Act.put, List.setIfInBounds_toArray, List.set_cons_zero, List.set_cons_succ]
    refine wpAnyH_take (i := 27) (v := ?_) (by simp only [List.getElem?_toArray, List.getElem?_cons_succ, List.getElem?_cons_zero]; rfl) (by kernel_rfl) (by kernel_rfl) (by kernel_rfl) (by intro _ _ _ h; exact h) (Or.inl ⟨by rfl, ?_⟩) hHeld ?_
    rotate_left 1
    · intro w hSw; (try dsimp only at hSw); go_simp; try with_reducible rfl
    try simp only [Act.put, List.setIfInBounds_toArray, List.set_cons_zero, List.set_cons_succ]
    refine wpAnyH_done (by kernel_rfl) ?_ _
    have FT_6 := Lib.hid (FT_5.out.below RB5.out (Nat.le_refl _))
    have FA_6 := Lib.hid (FA_5.out.below RB5.out (Nat.le_refl _))
    have FQ_6 := Lib.hid (FQ_5.out.below RB5.out (Nat.le_refl _))
    have FM_6 := Lib.hid (FM_5.out.below RB5.out (Nat.le_refl _))
    have HB6 := Lib.hid (HS5.out.trans (RB5.out.mono HS5.out.size))
    clear hHeld HS5 FT_5 FA_5 FQ_5 FM_5
    clear QF5 RB5; generalize w4.drew = w6 at *
    clear hsx hsy tx ty
    have C7 := Lib.hid (C4.out.trans (HB6.out.mono C4.out.size))
    have M7 := Lib.hid (M4.out.below HB6.out (Nat.le_refl _))
    clear C4 M4 HB6 FT_6 FA_6 FQ_6 FM_6
    go_wp2_with fail
    rw [rounds_succ]
    go_upto_region 5 with (fail)
    have MD := Lib.hid (show Bx w6.drew (w.heap.size + 1 + 1) #[.int .i64 X0, .int .i64 X1, .int .i64 a0_2, .int .i64 a0_3, .int .i64 a0_4, .int .i64 a0_5, .int .i64 a0_6, .int .i64 a0_7] 48 from bx_dr M7.out)
    refine wp_region_held_drew (S := fun _ => True) (by kernel_rfl) trivial (fun _ => ?_)
    refine wpAnyH_genM w1.heap.size (w.heap.size + 1 + 1) 48 #[.int .i64 X0, .int .i64 X1, .int .i64 a0_2, .int .i64 a0_3, .int .i64 a0_4, .int .i64 a0_5, .int .i64 a0_6, .int .i64 a0_7] [⟨9, 2, [.int .i64 X2]⟩] [⟨0, 11, .int .i64 1⟩, ⟨1, 12, .pointer (some ⟨w.heap.size + 1 + 1, 2, none⟩)⟩, ⟨2, 13, .pointer (some ⟨w.heap.size + 1 + 1, 2, none⟩)⟩, ⟨3, 14, .int .i64 a0_2⟩, ⟨4, 15, .pointer (some ⟨w.heap.size + 1, 0, none⟩)⟩, ⟨5, 16, .int .i64 a1⟩, ⟨6, 17, .int .i64 X2⟩, ⟨7, 18, .pointer (some ⟨w.heap.size + 1 + 1, 2, none⟩)⟩, ⟨8, 19, .pointer (some ⟨w.heap.size + 1 + 1, 2, none⟩)⟩] (by kernel_rfl) (fun _ => trivial) (Nat.le_of_eq HSZ.out) MD.out ?_ ?_ ?_
    · refine ⟨?_, ?_, ?_, ?_, ?_, ?_, ?_, ?_, ?_, trivial⟩
      · intro a wz K hb ht hd hM hK
        have hbw := Lib.hid (C7.out.trans ((Below.refl w1.heap.size w6).drew.trans hb)); clear hb
        have HK := Lib.hid hK; clear hK
        all_goals (
        have hx6 := (ht 6 rfl).trans rfl
        have es6 : a.tmps.getD 6 undef = _ := getD_of hx6; clear hx6
        clear ht hd
        clear hM
        refine wpOp_step (by simp only [List.getElem?_toArray, List.getElem?_cons_succ, List.getElem?_cons_zero]; rfl) (fun K' hK' => ?_)
        have HK' := Lib.hid hK'; clear hK'
        go_simp
        exact HK'.out _ _ HK.out)
      · intro a wz K hb ht hd hM hK
        have hbw := Lib.hid (C7.out.trans ((Below.refl w1.heap.size w6).drew.trans hb)); clear hb
        have HK := Lib.hid hK; clear hK
        all_goals (
        have hx5 := (ht 5 rfl).trans rfl
        have es5 : a.tmps.getD 5 undef = _ := getD_of hx5; clear hx5
        have hx11 : a.tmps[11]? = some (.int .i64 1) := hd 0 _ rfl (by kernel_rfl)
        have es11 : a.tmps.getD 11 undef = _ := getD_of hx11; clear hx11
        clear ht hd
        clear hM
        refine wpOp_step (by simp only [List.getElem?_toArray, List.getElem?_cons_succ, List.getElem?_cons_zero]; rfl) (fun K' hK' => ?_)
        have HK' := Lib.hid hK'; clear hK'
        go_simp
        exact HK'.out _ _ HK.out)
      · intro a wz K hb ht hd hM hK
        have hbw := Lib.hid (C7.out.trans ((Below.refl w1.heap.size w6).drew.trans hb)); clear hb
        have HK := Lib.hid hK; clear hK
        all_goals (
        have hx12 : a.tmps[12]? = some (.pointer (some ⟨w.heap.size + 1 + 1, 2, none⟩)) := hd 1 _ rfl (by kernel_rfl)
        have es12 : a.tmps.getD 12 undef = _ := getD_of hx12; clear hx12
        clear ht hd
        clear hM
        refine wpOp_step (by simp only [List.getElem?_toArray, List.getElem?_cons_succ, List.getElem?_cons_zero]; rfl) (fun K' hK' => ?_)
        have HK' := Lib.hid hK'; clear hK'
        go_simp
        exact HK'.out _ _ HK.out)
      · intro a wz K hb ht hd hM hK
        have hbw := Lib.hid (C7.out.trans ((Below.refl w1.heap.size w6).drew.trans hb)); clear hb
        have HK := Lib.hid hK; clear hK
        all_goals (
        have hx13 : a.tmps[13]? = some (.pointer (some ⟨w.heap.size + 1 + 1, 2, none⟩)) := hd 2 _ rfl (by kernel_rfl)
        have es13 : a.tmps.getD 13 undef = _ := getD_of hx13; clear hx13
        clear ht hd
        have HM := Lib.hid (hM (fun s0 h => by cases h; kernel_rfl))
        clear hM
        have zc0 := HM.out.cell 2 (v := .int .i64 a0_2) rfl
        refine wpOp_step (by simp only [List.getElem?_toArray, List.getElem?_cons_succ, List.getElem?_cons_zero]; rfl) (fun K' hK' => ?_)
        have HK' := Lib.hid hK'; clear hK'
        go_simp
        exact HK'.out _ _ HK.out)
      · intro a wz K hb ht hd hM hK
        have hbw := Lib.hid (C7.out.trans ((Below.refl w1.heap.size w6).drew.trans hb)); clear hb
        have HK := Lib.hid hK; clear hK
        all_goals (
        have hx3 := (ht 3 rfl).trans rfl
        have es3 : a.tmps.getD 3 undef = _ := getD_of hx3; clear hx3
        clear ht hd
        clear hM
        refine wpOp_step (by simp only [List.getElem?_toArray, List.getElem?_cons_succ, List.getElem?_cons_zero]; rfl) (fun K' hK' => ?_)
        have HK' := Lib.hid hK'; clear hK'
        go_simp
        exact HK'.out _ _ HK.out)
      · intro a wz K hb ht hd hM hK
        have hbw := Lib.hid (C7.out.trans ((Below.refl w1.heap.size w6).drew.trans hb)); clear hb
        have HK := Lib.hid hK; clear hK
        all_goals (
        have hx15 : a.tmps[15]? = some (.pointer (some ⟨w.heap.size + 1, 0, none⟩)) := hd 4 _ rfl (by kernel_rfl)
        have es15 : a.tmps.getD 15 undef = _ := getD_of hx15; clear hx15
        clear ht hd
        clear hM
        have zc0 := (FQ_1.out.below hbw.out (Nat.le_refl _)).cell 0 (v := .int .i64 a1) rfl
        refine wpOp_step (by simp only [List.getElem?_toArray, List.getElem?_cons_succ, List.getElem?_cons_zero]; rfl) (fun K' hK' => ?_)
        have HK' := Lib.hid hK'; clear hK'
        go_simp
        exact HK'.out _ _ HK.out)
      · intro a wz K hb ht hd hM hK
        have hbw := Lib.hid (C7.out.trans ((Below.refl w1.heap.size w6).drew.trans hb)); clear hb
        have HK := Lib.hid hK; clear hK
        all_goals (
        have hx14 : a.tmps[14]? = some (.int .i64 a0_2) := hd 3 _ rfl (by kernel_rfl)
        have es14 : a.tmps.getD 14 undef = _ := getD_of hx14; clear hx14
        have hx16 : a.tmps[16]? = some (.int .i64 a1) := hd 5 _ rfl (by kernel_rfl)
        have es16 : a.tmps.getD 16 undef = _ := getD_of hx16; clear hx16
        clear ht hd
        clear hM
        have ex := HX2.out
        refine wpOp_step (by simp only [List.getElem?_toArray, List.getElem?_cons_succ, List.getElem?_cons_zero]; rfl) (fun K' hK' => ?_)
        have HK' := Lib.hid hK'; clear hK'
        go_simp
        exact HK'.out _ _ HK.out)
      · intro a wz K hb ht hd hM hK
        have hbw := Lib.hid (C7.out.trans ((Below.refl w1.heap.size w6).drew.trans hb)); clear hb
        have HK := Lib.hid hK; clear hK
        all_goals (
        have hx5 := (ht 5 rfl).trans rfl
        have es5 : a.tmps.getD 5 undef = _ := getD_of hx5; clear hx5
        have hx11 : a.tmps[11]? = some (.int .i64 1) := hd 0 _ rfl (by kernel_rfl)
        have es11 : a.tmps.getD 11 undef = _ := getD_of hx11; clear hx11
        clear ht hd
        clear hM
        refine wpOp_step (by simp only [List.getElem?_toArray, List.getElem?_cons_succ, List.getElem?_cons_zero]; rfl) (fun K' hK' => ?_)
        have HK' := Lib.hid hK'; clear hK'
        go_simp
        exact HK'.out _ _ HK.out)
      · intro a wz K hb ht hd hM hK
        have hbw := Lib.hid (C7.out.trans ((Below.refl w1.heap.size w6).drew.trans hb)); clear hb
        have HK := Lib.hid hK; clear hK
        all_goals (
        have hx18 : a.tmps[18]? = some (.pointer (some ⟨w.heap.size + 1 + 1, 2, none⟩)) := hd 7 _ rfl (by kernel_rfl)
        have es18 : a.tmps.getD 18 undef = _ := getD_of hx18; clear hx18
        clear ht hd
        clear hM
        refine wpOp_step (by simp only [List.getElem?_toArray, List.getElem?_cons_succ, List.getElem?_cons_zero]; rfl) (fun K' hK' => ?_)
        have HK' := Lib.hid hK'; clear hK'
        go_simp
        exact HK'.out _ _ HK.out)
    · refine ⟨?_, trivial⟩
      · intro a wz cs K hb ht hd hbx hsz hK
        have HK := Lib.hid hK; clear hK hb
        all_goals (
        have hx19 : a.tmps[19]? = some (.pointer (some ⟨w.heap.size + 1 + 1, 2, none⟩)) := hd 8 _ rfl (by kernel_rfl)
        have es19 : a.tmps.getD 19 undef = _ := getD_of hx19; clear hx19
        have hx17 : a.tmps[17]? = some (.int .i64 X2) := hd 6 _ rfl (by kernel_rfl)
        have es17 : a.tmps.getD 17 undef = _ := getD_of hx17; clear hx17
        clear ht hd
        obtain ⟨zv0, zc0⟩ := hbx.some (i := 2 + 0) (by rw [hsz]; simp); have zf0 := hbx.free (2 + 0)
        have zl := hbx.lt; clear hbx hsz
        refine wpOp_step (by simp only [List.getElem?_toArray, List.getElem?_cons_succ, List.getElem?_cons_zero]; rfl) (fun K' hK' => ?_)
        have HK' := Lib.hid hK'; clear hK'
        go_simp
        exact HK'.out _ _ HK.out)
    intro w8 hb hx
    have C8 := Lib.hid (C7.out.trans ((Below.refl w1.heap.size w6).drew.trans hb)); clear hb
    have M8 : Hid (Bx w8 (w.heap.size + 1 + 1) #[.int .i64 X0, .int .i64 X1, .int .i64 X2, .int .i64 a0_3, .int .i64 a0_4, .int .i64 a0_5, .int .i64 a0_6, .int .i64 a0_7] 48) := Lib.hid hx; clear hx M7 MD C7
    simp only [List.foldl_cons, List.foldl_nil, Act.put, List.setIfInBounds_toArray, List.set_cons_zero, List.set_cons_succ]
    go_upto_region 6 with (fail)
    have MD := Lib.hid (show Bx w8.drew (w.heap.size + 1 + 1) #[.int .i64 X0, .int .i64 X1, .int .i64 X2, .int .i64 a0_3, .int .i64 a0_4, .int .i64 a0_5, .int .i64 a0_6, .int .i64 a0_7] 48 from bx_dr M8.out)
    refine wp_region_held_drew (S := fun _ => True) (by kernel_rfl) trivial (fun _ => ?_)
    refine wpAnyH_genM w1.heap.size (w.heap.size + 1 + 1) 48 #[.int .i64 X0, .int .i64 X1, .int .i64 X2, .int .i64 a0_3, .int .i64 a0_4, .int .i64 a0_5, .int .i64 a0_6, .int .i64 a0_7] [⟨9, 3, [.int .i64 X3]⟩] [⟨0, 20, .int .i64 1⟩, ⟨1, 21, .pointer (some ⟨w.heap.size + 1 + 1, 2, none⟩)⟩, ⟨2, 22, .pointer (some ⟨w.heap.size + 1 + 1, 3, none⟩)⟩, ⟨3, 23, .int .i64 a0_3⟩, ⟨4, 24, .pointer (some ⟨w.heap.size + 1, 1, none⟩)⟩, ⟨5, 25, .int .i64 b1⟩, ⟨6, 26, .int .i64 X3⟩, ⟨7, 27, .pointer (some ⟨w.heap.size + 1 + 1, 2, none⟩)⟩, ⟨8, 28, .pointer (some ⟨w.heap.size + 1 + 1, 3, none⟩)⟩] (by kernel_rfl) (fun _ => trivial) (Nat.le_of_eq HSZ.out) MD.out ?_ ?_ ?_
    · refine ⟨?_, ?_, ?_, ?_, ?_, ?_, ?_, ?_, ?_, trivial⟩
      · intro a wz K hb ht hd hM hK
        have hbw := Lib.hid (C8.out.trans ((Below.refl w1.heap.size w8).drew.trans hb)); clear hb
        have HK := Lib.hid hK; clear hK
        all_goals (
        have hx6 := (ht 6 rfl).trans rfl
        have es6 : a.tmps.getD 6 undef = _ := getD_of hx6; clear hx6
        clear ht hd
        clear hM
        refine wpOp_step (by simp only [List.getElem?_toArray, List.getElem?_cons_succ, List.getElem?_cons_zero]; rfl) (fun K' hK' => ?_)
        have HK' := Lib.hid hK'; clear hK'
        go_simp
        exact HK'.out _ _ HK.out)
      · intro a wz K hb ht hd hM hK
        have hbw := Lib.hid (C8.out.trans ((Below.refl w1.heap.size w8).drew.trans hb)); clear hb
        have HK := Lib.hid hK; clear hK
        all_goals (
        have hx5 := (ht 5 rfl).trans rfl
        have es5 : a.tmps.getD 5 undef = _ := getD_of hx5; clear hx5
        have hx20 : a.tmps[20]? = some (.int .i64 1) := hd 0 _ rfl (by kernel_rfl)
        have es20 : a.tmps.getD 20 undef = _ := getD_of hx20; clear hx20
        clear ht hd
        clear hM
        refine wpOp_step (by simp only [List.getElem?_toArray, List.getElem?_cons_succ, List.getElem?_cons_zero]; rfl) (fun K' hK' => ?_)
        have HK' := Lib.hid hK'; clear hK'
        go_simp
        exact HK'.out _ _ HK.out)
      · intro a wz K hb ht hd hM hK
        have hbw := Lib.hid (C8.out.trans ((Below.refl w1.heap.size w8).drew.trans hb)); clear hb
        have HK := Lib.hid hK; clear hK
        all_goals (
        have hx21 : a.tmps[21]? = some (.pointer (some ⟨w.heap.size + 1 + 1, 2, none⟩)) := hd 1 _ rfl (by kernel_rfl)
        have es21 : a.tmps.getD 21 undef = _ := getD_of hx21; clear hx21
        clear ht hd
        clear hM
        refine wpOp_step (by simp only [List.getElem?_toArray, List.getElem?_cons_succ, List.getElem?_cons_zero]; rfl) (fun K' hK' => ?_)
        have HK' := Lib.hid hK'; clear hK'
        go_simp
        exact HK'.out _ _ HK.out)
      · intro a wz K hb ht hd hM hK
        have hbw := Lib.hid (C8.out.trans ((Below.refl w1.heap.size w8).drew.trans hb)); clear hb
        have HK := Lib.hid hK; clear hK
        all_goals (
        have hx22 : a.tmps[22]? = some (.pointer (some ⟨w.heap.size + 1 + 1, 3, none⟩)) := hd 2 _ rfl (by kernel_rfl)
        have es22 : a.tmps.getD 22 undef = _ := getD_of hx22; clear hx22
        clear ht hd
        have HM := Lib.hid (hM (fun s0 h => by cases h; kernel_rfl))
        clear hM
        have zc0 := HM.out.cell 3 (v := .int .i64 a0_3) rfl
        refine wpOp_step (by simp only [List.getElem?_toArray, List.getElem?_cons_succ, List.getElem?_cons_zero]; rfl) (fun K' hK' => ?_)
        have HK' := Lib.hid hK'; clear hK'
        go_simp
        exact HK'.out _ _ HK.out)
      · intro a wz K hb ht hd hM hK
        have hbw := Lib.hid (C8.out.trans ((Below.refl w1.heap.size w8).drew.trans hb)); clear hb
        have HK := Lib.hid hK; clear hK
        all_goals (
        have hx3 := (ht 3 rfl).trans rfl
        have es3 : a.tmps.getD 3 undef = _ := getD_of hx3; clear hx3
        clear ht hd
        clear hM
        refine wpOp_step (by simp only [List.getElem?_toArray, List.getElem?_cons_succ, List.getElem?_cons_zero]; rfl) (fun K' hK' => ?_)
        have HK' := Lib.hid hK'; clear hK'
        go_simp
        exact HK'.out _ _ HK.out)
      · intro a wz K hb ht hd hM hK
        have hbw := Lib.hid (C8.out.trans ((Below.refl w1.heap.size w8).drew.trans hb)); clear hb
        have HK := Lib.hid hK; clear hK
        all_goals (
        have hx24 : a.tmps[24]? = some (.pointer (some ⟨w.heap.size + 1, 1, none⟩)) := hd 4 _ rfl (by kernel_rfl)
        have es24 : a.tmps.getD 24 undef = _ := getD_of hx24; clear hx24
        clear ht hd
        clear hM
        have zc0 := (FQ_1.out.below hbw.out (Nat.le_refl _)).cell 1 (v := .int .i64 b1) rfl
        refine wpOp_step (by simp only [List.getElem?_toArray, List.getElem?_cons_succ, List.getElem?_cons_zero]; rfl) (fun K' hK' => ?_)
        have HK' := Lib.hid hK'; clear hK'
        go_simp
        exact HK'.out _ _ HK.out)
      · intro a wz K hb ht hd hM hK
        have hbw := Lib.hid (C8.out.trans ((Below.refl w1.heap.size w8).drew.trans hb)); clear hb
        have HK := Lib.hid hK; clear hK
        all_goals (
        have hx23 : a.tmps[23]? = some (.int .i64 a0_3) := hd 3 _ rfl (by kernel_rfl)
        have es23 : a.tmps.getD 23 undef = _ := getD_of hx23; clear hx23
        have hx25 : a.tmps[25]? = some (.int .i64 b1) := hd 5 _ rfl (by kernel_rfl)
        have es25 : a.tmps.getD 25 undef = _ := getD_of hx25; clear hx25
        clear ht hd
        clear hM
        have ex := HX3.out
        refine wpOp_step (by simp only [List.getElem?_toArray, List.getElem?_cons_succ, List.getElem?_cons_zero]; rfl) (fun K' hK' => ?_)
        have HK' := Lib.hid hK'; clear hK'
        go_simp
        exact HK'.out _ _ HK.out)
      · intro a wz K hb ht hd hM hK
        have hbw := Lib.hid (C8.out.trans ((Below.refl w1.heap.size w8).drew.trans hb)); clear hb
        have HK := Lib.hid hK; clear hK
        all_goals (
        have hx5 := (ht 5 rfl).trans rfl
        have es5 : a.tmps.getD 5 undef = _ := getD_of hx5; clear hx5
        have hx20 : a.tmps[20]? = some (.int .i64 1) := hd 0 _ rfl (by kernel_rfl)
        have es20 : a.tmps.getD 20 undef = _ := getD_of hx20; clear hx20
        clear ht hd
        clear hM
        refine wpOp_step (by simp only [List.getElem?_toArray, List.getElem?_cons_succ, List.getElem?_cons_zero]; rfl) (fun K' hK' => ?_)
        have HK' := Lib.hid hK'; clear hK'
        go_simp
        exact HK'.out _ _ HK.out)
      · intro a wz K hb ht hd hM hK
        have hbw := Lib.hid (C8.out.trans ((Below.refl w1.heap.size w8).drew.trans hb)); clear hb
        have HK := Lib.hid hK; clear hK
        all_goals (
        have hx27 : a.tmps[27]? = some (.pointer (some ⟨w.heap.size + 1 + 1, 2, none⟩)) := hd 7 _ rfl (by kernel_rfl)
        have es27 : a.tmps.getD 27 undef = _ := getD_of hx27; clear hx27
        clear ht hd
        clear hM
        refine wpOp_step (by simp only [List.getElem?_toArray, List.getElem?_cons_succ, List.getElem?_cons_zero]; rfl) (fun K' hK' => ?_)
        have HK' := Lib.hid hK'; clear hK'
        go_simp
        exact HK'.out _ _ HK.out)
    · refine ⟨?_, trivial⟩
      · intro a wz cs K hb ht hd hbx hsz hK
        have HK := Lib.hid hK; clear hK hb
        all_goals (
        have hx28 : a.tmps[28]? = some (.pointer (some ⟨w.heap.size + 1 + 1, 3, none⟩)) := hd 8 _ rfl (by kernel_rfl)
        have es28 : a.tmps.getD 28 undef = _ := getD_of hx28; clear hx28
        have hx26 : a.tmps[26]? = some (.int .i64 X3) := hd 6 _ rfl (by kernel_rfl)
        have es26 : a.tmps.getD 26 undef = _ := getD_of hx26; clear hx26
        clear ht hd
        obtain ⟨zv0, zc0⟩ := hbx.some (i := 3 + 0) (by rw [hsz]; simp); have zf0 := hbx.free (3 + 0)
        have zl := hbx.lt; clear hbx hsz
        refine wpOp_step (by simp only [List.getElem?_toArray, List.getElem?_cons_succ, List.getElem?_cons_zero]; rfl) (fun K' hK' => ?_)
        have HK' := Lib.hid hK'; clear hK'
        go_simp
        exact HK'.out _ _ HK.out)
    intro w9 hb hx
    have C9 := Lib.hid (C8.out.trans ((Below.refl w1.heap.size w8).drew.trans hb)); clear hb
    have M9 : Hid (Bx w9 (w.heap.size + 1 + 1) #[.int .i64 X0, .int .i64 X1, .int .i64 X2, .int .i64 X3, .int .i64 a0_4, .int .i64 a0_5, .int .i64 a0_6, .int .i64 a0_7] 48) := Lib.hid hx; clear hx M8 MD C8
    simp only [List.foldl_cons, List.foldl_nil, Act.put, List.setIfInBounds_toArray, List.set_cons_zero, List.set_cons_succ]
    cases g2
    · have FT_10 := Lib.hid (FT_1.out.below C9.out (Nat.le_refl _))
      have FA_10 := Lib.hid (FA_1.out.below C9.out (Nat.le_refl _))
      have FQ_10 := Lib.hid (FQ_1.out.below C9.out (Nat.le_refl _))
      have FM_10 := M9
      have HS10 := Lib.hid (Below.refl w9.heap.size w9)
      go_wp2_with fail
      have hsx := HSX.out; have hsy := HSY.out; have tx := HT2.out; have ty := HT3.out; simp only [if_true, Bool.false_eq_true, if_false] at tx ty
      have RB10 := Lib.hid (below_drew0 w9)
      have QF10 := Lib.hid (show ∀ w', Below w9.heap.size w9 w' → w'.cell? ⟨w.heap.size + 1 + 1, 2, none⟩ = some (.int .i64 X2) ∧ w'.cell? ⟨w.heap.size + 1 + 1, 3, none⟩ = some (.int .i64 X3) ∧ w'.cell? ⟨w.heap.size, 2, none⟩ = some (.int .i64 a0_2) ∧ w'.cell? ⟨w.heap.size, 3, none⟩ = some (.int .i64 a0_3) ∧ w'.cell? ⟨w.heap.size + 1, 0, none⟩ = some (.int .i64 a1) ∧ w'.cell? ⟨w.heap.size + 1, 1, none⟩ = some (.int .i64 b1) from fun w' hb => ⟨(FM_10.out.below hb (Nat.le_refl _)).cell 2 (v := .int .i64 X2) rfl, (FM_10.out.below hb (Nat.le_refl _)).cell 3 (v := .int .i64 X3) rfl, (FA_10.out.below hb (Nat.le_refl _)).cell 2 (v := .int .i64 a0_2) rfl, (FA_10.out.below hb (Nat.le_refl _)).cell 3 (v := .int .i64 a0_3) rfl, (FQ_10.out.below hb (Nat.le_refl _)).cell 0 (v := .int .i64 a1) rfl, (FQ_10.out.below hb (Nat.le_refl _)).cell 1 (v := .int .i64 b1) rfl⟩)
      refine wp_region_held_drew (S := fun w' => w'.cell? ⟨w.heap.size + 1 + 1, 2, none⟩ = some (.int .i64 X2) ∧ w'.cell? ⟨w.heap.size + 1 + 1, 3, none⟩ = some (.int .i64 X3) ∧ w'.cell? ⟨w.heap.size, 2, none⟩ = some (.int .i64 a0_2) ∧ w'.cell? ⟨w.heap.size, 3, none⟩ = some (.int .i64 a0_3) ∧ w'.cell? ⟨w.heap.size + 1, 0, none⟩ = some (.int .i64 a1) ∧ w'.cell? ⟨w.heap.size + 1, 1, none⟩ = some (.int .i64 b1)) (by kernel_rfl) (QF10.out _ RB10.out) (fun hHeld => ?_)
      refine wpAnyH_take (i := 0) (v := ?_) (by simp only [List.getElem?_toArray, List.getElem?_cons_succ, List.getElem?_cons_zero]; rfl) (by kernel_rfl) (by kernel_rfl) (by kernel_rfl) (by intro _ _ _ h; exact h) (Or.inl ⟨by rfl, ?_⟩) hHeld ?_
      rotate_left 1
      · intro w hSw; (try dsimp only at hSw); go_simp; try with_reducible rfl
      try simp only [Act.put, List.setIfInBounds_toArray, List.set_cons_zero, List.set_cons_succ]
      refine wpAnyH_take (i := 1) (v := ?_) (by simp only [List.getElem?_toArray, List.getElem?_cons_succ, List.getElem?_cons_zero]; rfl) (by kernel_rfl) (by kernel_rfl) (by kernel_rfl) (by intro _ _ _ h; exact h) (Or.inl ⟨by rfl, ?_⟩) hHeld ?_
      rotate_left 1
      · intro w hSw; (try dsimp only at hSw); go_simp; try with_reducible rfl
      try simp only [Act.put, List.setIfInBounds_toArray, List.set_cons_zero, List.set_cons_succ]
      refine wpAnyH_take (i := 2) (v := ?_) (by simp only [List.getElem?_toArray, List.getElem?_cons_succ, List.getElem?_cons_zero]; rfl) (by kernel_rfl) (by kernel_rfl) (by kernel_rfl) (by intro _ _ _ h; exact h) (Or.inl ⟨by rfl, ?_⟩) hHeld ?_
      rotate_left 1
      · intro w hSw; (try dsimp only at hSw); go_simp; try with_reducible rfl
      try simp only [Act.put, List.setIfInBounds_toArray, List.set_cons_zero, List.set_cons_succ]
      refine wpAnyH_take (i := 3) (v := ?_) (by simp only [List.getElem?_toArray, List.getElem?_cons_succ, List.getElem?_cons_zero]; rfl) (by kernel_rfl) (by kernel_rfl) (by kernel_rfl) (by intro _ _ _ h; exact h) (Or.inl ⟨by rfl, ?_⟩) hHeld ?_
      rotate_left 1
      · intro w hSw; (try dsimp only at hSw); go_simp; try with_reducible rfl
      try simp only [Act.put, List.setIfInBounds_toArray, List.set_cons_zero, List.set_cons_succ]
      refine wpAnyH_take (i := 4) (v := ?_) (by simp only [List.getElem?_toArray, List.getElem?_cons_succ, List.getElem?_cons_zero]; rfl) (by kernel_rfl) (by kernel_rfl) (by kernel_rfl) (by intro _ _ _ h; exact h) (Or.inl ⟨by rfl, ?_⟩) hHeld ?_
      rotate_left 1
      · intro w hSw; (try dsimp only at hSw); go_simp; try with_reducible rfl
      try simp only [Act.put, List.setIfInBounds_toArray, List.set_cons_zero, List.set_cons_succ]
      refine wpAnyH_take (i := 5) (v := ?_) (by simp only [List.getElem?_toArray, List.getElem?_cons_succ, List.getElem?_cons_zero]; rfl) (by kernel_rfl) (by kernel_rfl) (by kernel_rfl) (by intro _ _ _ h; exact h) (Or.inl ⟨by rfl, ?_⟩) hHeld ?_
      rotate_left 1
      · intro w hSw; (try dsimp only at hSw); go_simp; try with_reducible rfl
      try simp only [Act.put, List.setIfInBounds_toArray, List.set_cons_zero, List.set_cons_succ]
      refine wpAnyH_take (i := 6) (v := ?_) (by simp only [List.getElem?_toArray, List.getElem?_cons_succ, List.getElem?_cons_zero]; rfl) (by kernel_rfl) (by kernel_rfl) (by kernel_rfl) (by intro _ _ _ h; exact h) (Or.inl ⟨by rfl, ?_⟩) hHeld ?_
      rotate_left 1
      · intro w hSw; (try dsimp only at hSw); go_simp; try with_reducible rfl
      try simp only [Act.put, List.setIfInBounds_toArray, List.set_cons_zero, List.set_cons_succ]
      refine wpAnyH_take (i := 7) (v := ?_) (by simp only [List.getElem?_toArray, List.getElem?_cons_succ, List.getElem?_cons_zero]; rfl) (by kernel_rfl) (by kernel_rfl) (by kernel_rfl) (by intro _ _ _ h; exact h) (Or.inl ⟨by rfl, ?_⟩) hHeld ?_
      rotate_left 1
      · intro w hSw; (try dsimp only at hSw); go_simp; try with_reducible rfl
      try simp only [Act.put, List.setIfInBounds_toArray, List.set_cons_zero, List.set_cons_succ]
      refine wpAnyH_take (i := 8) (v := ?_) (by simp only [List.getElem?_toArray, List.getElem?_cons_succ, List.getElem?_cons_zero]; rfl) (by kernel_rfl) (by kernel_rfl) (by kernel_rfl) (by intro _ _ _ h; exact h) (Or.inl ⟨by rfl, ?_⟩) hHeld ?_
      rotate_left 1
      · intro w hSw; (try dsimp only at hSw); go_simp; try with_reducible rfl
      try simp only [Act.put, List.setIfInBounds_toArray, List.set_cons_zero, List.set_cons_succ]
      refine wpAnyH_take (i := 9) (v := ?_) (by simp only [List.getElem?_toArray, List.getElem?_cons_succ, List.getElem?_cons_zero]; rfl) (by kernel_rfl) (by kernel_rfl) (by kernel_rfl) (by intro _ _ _ h; exact h) (Or.inl ⟨by rfl, ?_⟩) hHeld ?_
      rotate_left 1
      · intro w hSw; (try dsimp only at hSw); go_simp; try with_reducible rfl
      try simp only [Act.put, List.setIfInBounds_toArray, List.set_cons_zero, List.set_cons_succ]
      refine wpAnyH_take (i := 10) (v := ?_) (by simp only [List.getElem?_toArray, List.getElem?_cons_succ, List.getElem?_cons_zero]; rfl) (by kernel_rfl) (by kernel_rfl) (by kernel_rfl) (by intro _ _ _ h; exact h) (Or.inl ⟨by rfl, ?_⟩) hHeld ?_
      rotate_left 1
      · intro w hSw; (try dsimp only at hSw); go_simp; try with_reducible rfl
      try simp only [Act.put, List.setIfInBounds_toArray, List.set_cons_zero, List.set_cons_succ]
      refine wpAnyH_take (i := 11) (v := ?_) (by simp only [List.getElem?_toArray, List.getElem?_cons_succ, List.getElem?_cons_zero]; rfl) (by kernel_rfl) (by kernel_rfl) (by kernel_rfl) (by intro _ _ _ h; exact h) (Or.inl ⟨by rfl, ?_⟩) hHeld ?_
      rotate_left 1
      · intro w hSw; (try dsimp only at hSw); go_simp; try with_reducible rfl
      try simp only [Act.put, List.setIfInBounds_toArray, List.set_cons_zero, List.set_cons_succ]
      refine wpAnyH_take (i := 12) (v := ?_) (by simp only [List.getElem?_toArray, List.getElem?_cons_succ, List.getElem?_cons_zero]; rfl) (by kernel_rfl) (by kernel_rfl) (by kernel_rfl) (by intro _ _ _ h; exact h) (Or.inl ⟨by rfl, ?_⟩) hHeld ?_
      rotate_left 1
      · intro w hSw; (try dsimp only at hSw); go_simp; try with_reducible rfl
      try simp only [Act.put, List.setIfInBounds_toArray, List.set_cons_zero, List.set_cons_succ]
      refine wpAnyH_take (i := 13) (v := ?_) (by simp only [List.getElem?_toArray, List.getElem?_cons_succ, List.getElem?_cons_zero]; rfl) (by kernel_rfl) (by kernel_rfl) (by kernel_rfl) (by intro _ _ _ h; exact h) (Or.inl ⟨by rfl, ?_⟩) hHeld ?_
      rotate_left 1
      · intro w hSw; (try dsimp only at hSw); go_simp; try with_reducible rfl
      try simp only [Act.put, List.setIfInBounds_toArray, List.set_cons_zero, List.set_cons_succ]
      refine wpAnyH_take (i := 14) (v := undef) (by simp only [List.getElem?_toArray, List.getElem?_cons_succ, List.getElem?_cons_zero]; rfl) (by kernel_rfl) (by kernel_rfl) (by kernel_rfl) (by intro _ _ _ h; exact h) (Or.inr ⟨by rfl, rfl⟩) hHeld ?_
      try simp only [Act.put, List.setIfInBounds_toArray, List.set_cons_zero, List.set_cons_succ]
      refine wpAnyH_take (i := 15) (v := undef) (by simp only [List.getElem?_toArray, List.getElem?_cons_succ, List.getElem?_cons_zero]; rfl) (by kernel_rfl) (by kernel_rfl) (by kernel_rfl) (by intro _ _ _ h; exact h) (Or.inr ⟨by rfl, rfl⟩) hHeld ?_
      try simp only [Act.put, List.setIfInBounds_toArray, List.set_cons_zero, List.set_cons_succ]
      refine wpAnyH_take (i := 16) (v := undef) (by simp only [List.getElem?_toArray, List.getElem?_cons_succ, List.getElem?_cons_zero]; rfl) (by kernel_rfl) (by kernel_rfl) (by kernel_rfl) (by intro _ _ _ h; exact h) (Or.inr ⟨by rfl, rfl⟩) hHeld ?_
      try simp only [Act.put, List.setIfInBounds_toArray, List.set_cons_zero, List.set_cons_succ]
      refine wpAnyH_take (i := 17) (v := undef) (by simp only [List.getElem?_toArray, List.getElem?_cons_succ, List.getElem?_cons_zero]; rfl) (by kernel_rfl) (by kernel_rfl) (by kernel_rfl) (by intro _ _ _ h; exact h) (Or.inr ⟨by rfl, rfl⟩) hHeld ?_
      try simp only [Act.put, List.setIfInBounds_toArray, List.set_cons_zero, List.set_cons_succ]
      refine wpAnyH_take (i := 18) (v := undef) (by simp only [List.getElem?_toArray, List.getElem?_cons_succ, List.getElem?_cons_zero]; rfl) (by kernel_rfl) (by kernel_rfl) (by kernel_rfl) (by intro _ _ _ h; exact h) (Or.inr ⟨by rfl, rfl⟩) hHeld ?_
      try simp only [Act.put, List.setIfInBounds_toArray, List.set_cons_zero, List.set_cons_succ]
      refine wpAnyH_take (i := 19) (v := undef) (by simp only [List.getElem?_toArray, List.getElem?_cons_succ, List.getElem?_cons_zero]; rfl) (by kernel_rfl) (by kernel_rfl) (by kernel_rfl) (by intro _ _ _ h; exact h) (Or.inr ⟨by rfl, rfl⟩) hHeld ?_
      try simp only [Act.put, List.setIfInBounds_toArray, List.set_cons_zero, List.set_cons_succ]
      refine wpAnyH_take (i := 20) (v := undef) (by simp only [List.getElem?_toArray, List.getElem?_cons_succ, List.getElem?_cons_zero]; rfl) (by kernel_rfl) (by kernel_rfl) (by kernel_rfl) (by intro _ _ _ h; exact h) (Or.inr ⟨by rfl, rfl⟩) hHeld ?_
      try simp only [Act.put, List.setIfInBounds_toArray, List.set_cons_zero, List.set_cons_succ]
      refine wpAnyH_take (i := 21) (v := undef) (by simp only [List.getElem?_toArray, List.getElem?_cons_succ, List.getElem?_cons_zero]; rfl) (by kernel_rfl) (by kernel_rfl) (by kernel_rfl) (by intro _ _ _ h; exact h) (Or.inr ⟨by rfl, rfl⟩) hHeld ?_
      try simp only [Act.put, List.setIfInBounds_toArray, List.set_cons_zero, List.set_cons_succ]
      refine wpAnyH_take (i := 22) (v := undef) (by simp only [List.getElem?_toArray, List.getElem?_cons_succ, List.getElem?_cons_zero]; rfl) (by kernel_rfl) (by kernel_rfl) (by kernel_rfl) (by intro _ _ _ h; exact h) (Or.inr ⟨by rfl, rfl⟩) hHeld ?_
      try simp only [Act.put, List.setIfInBounds_toArray, List.set_cons_zero, List.set_cons_succ]
      refine wpAnyH_take (i := 23) (v := undef) (by simp only [List.getElem?_toArray, List.getElem?_cons_succ, List.getElem?_cons_zero]; rfl) (by kernel_rfl) (by kernel_rfl) (by kernel_rfl) (by intro _ _ _ h; exact h) (Or.inr ⟨by rfl, rfl⟩) hHeld ?_
      try simp only [Act.put, List.setIfInBounds_toArray, List.set_cons_zero, List.set_cons_succ]
      refine wpAnyH_take (i := 24) (v := undef) (by simp only [List.getElem?_toArray, List.getElem?_cons_succ, List.getElem?_cons_zero]; rfl) (by kernel_rfl) (by kernel_rfl) (by kernel_rfl) (by intro _ _ _ h; exact h) (Or.inr ⟨by rfl, rfl⟩) hHeld ?_
      try simp only [Act.put, List.setIfInBounds_toArray, List.set_cons_zero, List.set_cons_succ]
      refine wpAnyH_take (i := 25) (v := undef) (by simp only [List.getElem?_toArray, List.getElem?_cons_succ, List.getElem?_cons_zero]; rfl) (by kernel_rfl) (by kernel_rfl) (by kernel_rfl) (by intro _ _ _ h; exact h) (Or.inr ⟨by rfl, rfl⟩) hHeld ?_
      try simp only [Act.put, List.setIfInBounds_toArray, List.set_cons_zero, List.set_cons_succ]
      refine wpAnyH_take (i := 26) (v := undef) (by simp only [List.getElem?_toArray, List.getElem?_cons_succ, List.getElem?_cons_zero]; rfl) (by kernel_rfl) (by kernel_rfl) (by kernel_rfl) (by intro _ _ _ h; exact h) (Or.inr ⟨by rfl, rfl⟩) hHeld ?_
      try simp only [Act.put, List.setIfInBounds_toArray, List.set_cons_zero, List.set_cons_succ]
      refine wpAnyH_take (i := 27) (v := ?_) (by simp only [List.getElem?_toArray, List.getElem?_cons_succ, List.getElem?_cons_zero]; rfl) (by kernel_rfl) (by kernel_rfl) (by kernel_rfl) (by intro _ _ _ h; exact h) (Or.inl ⟨by rfl, ?_⟩) hHeld ?_
      rotate_left 1
      · intro w hSw; (try dsimp only at hSw); go_simp; try with_reducible rfl
      try simp only [Act.put, List.setIfInBounds_toArray, List.set_cons_zero, List.set_cons_succ]
      refine wpAnyH_done (by kernel_rfl) ?_ _
      have FT_11 := Lib.hid (FT_10.out.below RB10.out (Nat.le_refl _))
      have FA_11 := Lib.hid (FA_10.out.below RB10.out (Nat.le_refl _))
      have FQ_11 := Lib.hid (FQ_10.out.below RB10.out (Nat.le_refl _))
      have FM_11 := Lib.hid (FM_10.out.below RB10.out (Nat.le_refl _))
      have HB11 := Lib.hid (HS10.out.trans (RB10.out.mono HS10.out.size))
      clear hHeld HS10 FT_10 FA_10 FQ_10 FM_10
      clear QF10 RB10; generalize w9.drew = w11 at *
      clear hsx hsy tx ty
      go_wp2_with fail
      refine (alive7 _ FT_11.out).mono ?_
      rintro e w12 ⟨rfl, B⟩
      have HB12 := Lib.hid (HB11.out.trans (B.mono HB11.out.size))
      have FT_12 := Lib.hid (FT_11.out.below B (Nat.le_refl _))
      have FA_12 := Lib.hid (FA_11.out.below B (Nat.le_refl _))
      have FQ_12 := Lib.hid (FQ_11.out.below B (Nat.le_refl _))
      have FM_12 := Lib.hid (FM_11.out.below B (Nat.le_refl _))
      clear B  HB11 FT_11 FA_11 FQ_11 FM_11
      have HE := Lib.hid (HB1.out.trans ((C9.out.trans (HB12.out.mono C9.out.size)).mono HB1.out.size))
      go_wp2_with fail
      go_ret
      exact ⟨rfl, HE.out⟩
    cases g3
    · have FT_10 := Lib.hid (FT_1.out.below C9.out (Nat.le_refl _))
      have FA_10 := Lib.hid (FA_1.out.below C9.out (Nat.le_refl _))
      have FQ_10 := Lib.hid (FQ_1.out.below C9.out (Nat.le_refl _))
      have FM_10 := M9
      have HS10 := Lib.hid (Below.refl w9.heap.size w9)
      go_wp2_with fail
      have hsx := HSX.out; have hsy := HSY.out; have tx := HT2.out; have ty := HT3.out; simp only [if_true, Bool.false_eq_true, if_false] at tx ty
      have RB10 := Lib.hid (below_drew0 w9)
      have QF10 := Lib.hid (show ∀ w', Below w9.heap.size w9 w' → w'.cell? ⟨w.heap.size + 1 + 1, 2, none⟩ = some (.int .i64 X2) ∧ w'.cell? ⟨w.heap.size + 1 + 1, 3, none⟩ = some (.int .i64 X3) ∧ w'.cell? ⟨w.heap.size, 2, none⟩ = some (.int .i64 a0_2) ∧ w'.cell? ⟨w.heap.size, 3, none⟩ = some (.int .i64 a0_3) ∧ w'.cell? ⟨w.heap.size + 1, 0, none⟩ = some (.int .i64 a1) ∧ w'.cell? ⟨w.heap.size + 1, 1, none⟩ = some (.int .i64 b1) from fun w' hb => ⟨(FM_10.out.below hb (Nat.le_refl _)).cell 2 (v := .int .i64 X2) rfl, (FM_10.out.below hb (Nat.le_refl _)).cell 3 (v := .int .i64 X3) rfl, (FA_10.out.below hb (Nat.le_refl _)).cell 2 (v := .int .i64 a0_2) rfl, (FA_10.out.below hb (Nat.le_refl _)).cell 3 (v := .int .i64 a0_3) rfl, (FQ_10.out.below hb (Nat.le_refl _)).cell 0 (v := .int .i64 a1) rfl, (FQ_10.out.below hb (Nat.le_refl _)).cell 1 (v := .int .i64 b1) rfl⟩)
      refine wp_region_held_drew (S := fun w' => w'.cell? ⟨w.heap.size + 1 + 1, 2, none⟩ = some (.int .i64 X2) ∧ w'.cell? ⟨w.heap.size + 1 + 1, 3, none⟩ = some (.int .i64 X3) ∧ w'.cell? ⟨w.heap.size, 2, none⟩ = some (.int .i64 a0_2) ∧ w'.cell? ⟨w.heap.size, 3, none⟩ = some (.int .i64 a0_3) ∧ w'.cell? ⟨w.heap.size + 1, 0, none⟩ = some (.int .i64 a1) ∧ w'.cell? ⟨w.heap.size + 1, 1, none⟩ = some (.int .i64 b1)) (by kernel_rfl) (QF10.out _ RB10.out) (fun hHeld => ?_)
      refine wpAnyH_take (i := 0) (v := ?_) (by simp only [List.getElem?_toArray, List.getElem?_cons_succ, List.getElem?_cons_zero]; rfl) (by kernel_rfl) (by kernel_rfl) (by kernel_rfl) (by intro _ _ _ h; exact h) (Or.inl ⟨by rfl, ?_⟩) hHeld ?_
      rotate_left 1
      · intro w hSw; (try dsimp only at hSw); go_simp; try with_reducible rfl
      try simp only [Act.put, List.setIfInBounds_toArray, List.set_cons_zero, List.set_cons_succ]
      refine wpAnyH_take (i := 1) (v := ?_) (by simp only [List.getElem?_toArray, List.getElem?_cons_succ, List.getElem?_cons_zero]; rfl) (by kernel_rfl) (by kernel_rfl) (by kernel_rfl) (by intro _ _ _ h; exact h) (Or.inl ⟨by rfl, ?_⟩) hHeld ?_
      rotate_left 1
      · intro w hSw; (try dsimp only at hSw); go_simp; try with_reducible rfl
      try simp only [Act.put, List.setIfInBounds_toArray, List.set_cons_zero, List.set_cons_succ]
      refine wpAnyH_take (i := 2) (v := ?_) (by simp only [List.getElem?_toArray, List.getElem?_cons_succ, List.getElem?_cons_zero]; rfl) (by kernel_rfl) (by kernel_rfl) (by kernel_rfl) (by intro _ _ _ h; exact h) (Or.inl ⟨by rfl, ?_⟩) hHeld ?_
      rotate_left 1
      · intro w hSw; (try dsimp only at hSw); go_simp; try with_reducible rfl
      try simp only [Act.put, List.setIfInBounds_toArray, List.set_cons_zero, List.set_cons_succ]
      refine wpAnyH_take (i := 3) (v := ?_) (by simp only [List.getElem?_toArray, List.getElem?_cons_succ, List.getElem?_cons_zero]; rfl) (by kernel_rfl) (by kernel_rfl) (by kernel_rfl) (by intro _ _ _ h; exact h) (Or.inl ⟨by rfl, ?_⟩) hHeld ?_
      rotate_left 1
      · intro w hSw; (try dsimp only at hSw); go_simp; try with_reducible rfl
      try simp only [Act.put, List.setIfInBounds_toArray, List.set_cons_zero, List.set_cons_succ]
      refine wpAnyH_take (i := 4) (v := ?_) (by simp only [List.getElem?_toArray, List.getElem?_cons_succ, List.getElem?_cons_zero]; rfl) (by kernel_rfl) (by kernel_rfl) (by kernel_rfl) (by intro _ _ _ h; exact h) (Or.inl ⟨by rfl, ?_⟩) hHeld ?_
      rotate_left 1
      · intro w hSw; (try dsimp only at hSw); go_simp; try with_reducible rfl
      try simp only [Act.put, List.setIfInBounds_toArray, List.set_cons_zero, List.set_cons_succ]
      refine wpAnyH_take (i := 5) (v := ?_) (by simp only [List.getElem?_toArray, List.getElem?_cons_succ, List.getElem?_cons_zero]; rfl) (by kernel_rfl) (by kernel_rfl) (by kernel_rfl) (by intro _ _ _ h; exact h) (Or.inl ⟨by rfl, ?_⟩) hHeld ?_
      rotate_left 1
      · intro w hSw; (try dsimp only at hSw); go_simp; try with_reducible rfl
      try simp only [Act.put, List.setIfInBounds_toArray, List.set_cons_zero, List.set_cons_succ]
      refine wpAnyH_take (i := 6) (v := ?_) (by simp only [List.getElem?_toArray, List.getElem?_cons_succ, List.getElem?_cons_zero]; rfl) (by kernel_rfl) (by kernel_rfl) (by kernel_rfl) (by intro _ _ _ h; exact h) (Or.inl ⟨by rfl, ?_⟩) hHeld ?_
      rotate_left 1
      · intro w hSw; (try dsimp only at hSw); go_simp; try with_reducible rfl
      try simp only [Act.put, List.setIfInBounds_toArray, List.set_cons_zero, List.set_cons_succ]
      refine wpAnyH_take (i := 7) (v := ?_) (by simp only [List.getElem?_toArray, List.getElem?_cons_succ, List.getElem?_cons_zero]; rfl) (by kernel_rfl) (by kernel_rfl) (by kernel_rfl) (by intro _ _ _ h; exact h) (Or.inl ⟨by rfl, ?_⟩) hHeld ?_
      rotate_left 1
      · intro w hSw; (try dsimp only at hSw); go_simp; try with_reducible rfl
      try simp only [Act.put, List.setIfInBounds_toArray, List.set_cons_zero, List.set_cons_succ]
      refine wpAnyH_take (i := 8) (v := ?_) (by simp only [List.getElem?_toArray, List.getElem?_cons_succ, List.getElem?_cons_zero]; rfl) (by kernel_rfl) (by kernel_rfl) (by kernel_rfl) (by intro _ _ _ h; exact h) (Or.inl ⟨by rfl, ?_⟩) hHeld ?_
      rotate_left 1
      · intro w hSw; (try dsimp only at hSw); go_simp; try with_reducible rfl
      try simp only [Act.put, List.setIfInBounds_toArray, List.set_cons_zero, List.set_cons_succ]
      refine wpAnyH_take (i := 9) (v := ?_) (by simp only [List.getElem?_toArray, List.getElem?_cons_succ, List.getElem?_cons_zero]; rfl) (by kernel_rfl) (by kernel_rfl) (by kernel_rfl) (by intro _ _ _ h; exact h) (Or.inl ⟨by rfl, ?_⟩) hHeld ?_
      rotate_left 1
      · intro w hSw; (try dsimp only at hSw); go_simp; try with_reducible rfl
      try simp only [Act.put, List.setIfInBounds_toArray, List.set_cons_zero, List.set_cons_succ]
      refine wpAnyH_take (i := 10) (v := ?_) (by simp only [List.getElem?_toArray, List.getElem?_cons_succ, List.getElem?_cons_zero]; rfl) (by kernel_rfl) (by kernel_rfl) (by kernel_rfl) (by intro _ _ _ h; exact h) (Or.inl ⟨by rfl, ?_⟩) hHeld ?_
      rotate_left 1
      · intro w hSw; (try dsimp only at hSw); go_simp; try with_reducible rfl
      try simp only [Act.put, List.setIfInBounds_toArray, List.set_cons_zero, List.set_cons_succ]
      refine wpAnyH_take (i := 11) (v := ?_) (by simp only [List.getElem?_toArray, List.getElem?_cons_succ, List.getElem?_cons_zero]; rfl) (by kernel_rfl) (by kernel_rfl) (by kernel_rfl) (by intro _ _ _ h; exact h) (Or.inl ⟨by rfl, ?_⟩) hHeld ?_
      rotate_left 1
      · intro w hSw; (try dsimp only at hSw); go_simp; try with_reducible rfl
      try simp only [Act.put, List.setIfInBounds_toArray, List.set_cons_zero, List.set_cons_succ]
      refine wpAnyH_take (i := 12) (v := ?_) (by simp only [List.getElem?_toArray, List.getElem?_cons_succ, List.getElem?_cons_zero]; rfl) (by kernel_rfl) (by kernel_rfl) (by kernel_rfl) (by intro _ _ _ h; exact h) (Or.inl ⟨by rfl, ?_⟩) hHeld ?_
      rotate_left 1
      · intro w hSw; (try dsimp only at hSw); go_simp; try with_reducible rfl
      try simp only [Act.put, List.setIfInBounds_toArray, List.set_cons_zero, List.set_cons_succ]
      refine wpAnyH_take (i := 13) (v := ?_) (by simp only [List.getElem?_toArray, List.getElem?_cons_succ, List.getElem?_cons_zero]; rfl) (by kernel_rfl) (by kernel_rfl) (by kernel_rfl) (by intro _ _ _ h; exact h) (Or.inl ⟨by rfl, ?_⟩) hHeld ?_
      rotate_left 1
      · intro w hSw; (try dsimp only at hSw); go_simp; try with_reducible rfl
      try simp only [Act.put, List.setIfInBounds_toArray, List.set_cons_zero, List.set_cons_succ]
      refine wpAnyH_take (i := 14) (v := ?_) (by simp only [List.getElem?_toArray, List.getElem?_cons_succ, List.getElem?_cons_zero]; rfl) (by kernel_rfl) (by kernel_rfl) (by kernel_rfl) (by intro _ _ _ h; exact h) (Or.inl ⟨by rfl, ?_⟩) hHeld ?_
      rotate_left 1
      · intro w hSw; (try dsimp only at hSw); go_simp; try with_reducible rfl
      try simp only [Act.put, List.setIfInBounds_toArray, List.set_cons_zero, List.set_cons_succ]
      refine wpAnyH_take (i := 15) (v := ?_) (by simp only [List.getElem?_toArray, List.getElem?_cons_succ, List.getElem?_cons_zero]; rfl) (by kernel_rfl) (by kernel_rfl) (by kernel_rfl) (by intro _ _ _ h; exact h) (Or.inl ⟨by rfl, ?_⟩) hHeld ?_
      rotate_left 1
      · intro w hSw; (try dsimp only at hSw); go_simp; try with_reducible rfl
      try simp only [Act.put, List.setIfInBounds_toArray, List.set_cons_zero, List.set_cons_succ]
      refine wpAnyH_take (i := 16) (v := ?_) (by simp only [List.getElem?_toArray, List.getElem?_cons_succ, List.getElem?_cons_zero]; rfl) (by kernel_rfl) (by kernel_rfl) (by kernel_rfl) (by intro _ _ _ h; exact h) (Or.inl ⟨by rfl, ?_⟩) hHeld ?_
      rotate_left 1
      · intro w hSw; (try dsimp only at hSw); go_simp; try with_reducible rfl
      try simp only [Act.put, List.setIfInBounds_toArray, List.set_cons_zero, List.set_cons_succ]
      refine wpAnyH_take (i := 17) (v := ?_) (by simp only [List.getElem?_toArray, List.getElem?_cons_succ, List.getElem?_cons_zero]; rfl) (by kernel_rfl) (by kernel_rfl) (by kernel_rfl) (by intro _ _ _ h; exact h) (Or.inl ⟨by rfl, ?_⟩) hHeld ?_
      rotate_left 1
      · intro w hSw; (try dsimp only at hSw); go_simp; try with_reducible rfl
      try simp only [Act.put, List.setIfInBounds_toArray, List.set_cons_zero, List.set_cons_succ]
      refine wpAnyH_take (i := 18) (v := ?_) (by simp only [List.getElem?_toArray, List.getElem?_cons_succ, List.getElem?_cons_zero]; rfl) (by kernel_rfl) (by kernel_rfl) (by kernel_rfl) (by intro _ _ _ h; exact h) (Or.inl ⟨by rfl, ?_⟩) hHeld ?_
      rotate_left 1
      · intro w hSw; (try dsimp only at hSw); go_simp; try with_reducible rfl
      try simp only [Act.put, List.setIfInBounds_toArray, List.set_cons_zero, List.set_cons_succ]
      refine wpAnyH_take (i := 19) (v := ?_) (by simp only [List.getElem?_toArray, List.getElem?_cons_succ, List.getElem?_cons_zero]; rfl) (by kernel_rfl) (by kernel_rfl) (by kernel_rfl) (by intro _ _ _ h; exact h) (Or.inl ⟨by rfl, ?_⟩) hHeld ?_
      rotate_left 1
      · intro w hSw; (try dsimp only at hSw); go_simp; try with_reducible rfl
      try simp only [Act.put, List.setIfInBounds_toArray, List.set_cons_zero, List.set_cons_succ]
      refine wpAnyH_take (i := 20) (v := ?_) (by simp only [List.getElem?_toArray, List.getElem?_cons_succ, List.getElem?_cons_zero]; rfl) (by kernel_rfl) (by kernel_rfl) (by kernel_rfl) (by intro _ _ _ h; exact h) (Or.inl ⟨by rfl, ?_⟩) hHeld ?_
      rotate_left 1
      · intro w hSw; (try dsimp only at hSw); go_simp; try with_reducible rfl
      try simp only [Act.put, List.setIfInBounds_toArray, List.set_cons_zero, List.set_cons_succ]
      refine wpAnyH_take (i := 21) (v := ?_) (by simp only [List.getElem?_toArray, List.getElem?_cons_succ, List.getElem?_cons_zero]; rfl) (by kernel_rfl) (by kernel_rfl) (by kernel_rfl) (by intro _ _ _ h; exact h) (Or.inl ⟨by rfl, ?_⟩) hHeld ?_
      rotate_left 1
      · intro w hSw; (try dsimp only at hSw); go_simp; try with_reducible rfl
      try simp only [Act.put, List.setIfInBounds_toArray, List.set_cons_zero, List.set_cons_succ]
      refine wpAnyH_take (i := 22) (v := ?_) (by simp only [List.getElem?_toArray, List.getElem?_cons_succ, List.getElem?_cons_zero]; rfl) (by kernel_rfl) (by kernel_rfl) (by kernel_rfl) (by intro _ _ _ h; exact h) (Or.inl ⟨by rfl, ?_⟩) hHeld ?_
      rotate_left 1
      · intro w hSw; (try dsimp only at hSw); go_simp; try with_reducible rfl
      try simp only [Act.put, List.setIfInBounds_toArray, List.set_cons_zero, List.set_cons_succ]
      refine wpAnyH_take (i := 23) (v := ?_) (by simp only [List.getElem?_toArray, List.getElem?_cons_succ, List.getElem?_cons_zero]; rfl) (by kernel_rfl) (by kernel_rfl) (by kernel_rfl) (by intro _ _ _ h; exact h) (Or.inl ⟨by rfl, ?_⟩) hHeld ?_
      rotate_left 1
      · intro w hSw; (try dsimp only at hSw); go_simp; try with_reducible rfl
      try simp only [Act.put, List.setIfInBounds_toArray, List.set_cons_zero, List.set_cons_succ]
      refine wpAnyH_take (i := 24) (v := ?_) (by simp only [List.getElem?_toArray, List.getElem?_cons_succ, List.getElem?_cons_zero]; rfl) (by kernel_rfl) (by kernel_rfl) (by kernel_rfl) (by intro _ _ _ h; exact h) (Or.inl ⟨by rfl, ?_⟩) hHeld ?_
      rotate_left 1
      · intro w hSw; (try dsimp only at hSw); go_simp; try with_reducible rfl
      try simp only [Act.put, List.setIfInBounds_toArray, List.set_cons_zero, List.set_cons_succ]
      refine wpAnyH_take (i := 25) (v := ?_) (by simp only [List.getElem?_toArray, List.getElem?_cons_succ, List.getElem?_cons_zero]; rfl) (by kernel_rfl) (by kernel_rfl) (by kernel_rfl) (by intro _ _ _ h; exact h) (Or.inl ⟨by rfl, ?_⟩) hHeld ?_
      rotate_left 1
      · intro w hSw; (try dsimp only at hSw); go_simp; try with_reducible rfl
      try simp only [Act.put, List.setIfInBounds_toArray, List.set_cons_zero, List.set_cons_succ]
      refine wpAnyH_take (i := 26) (v := ?_) (by simp only [List.getElem?_toArray, List.getElem?_cons_succ, List.getElem?_cons_zero]; rfl) (by kernel_rfl) (by kernel_rfl) (by kernel_rfl) (by intro _ _ _ h; exact h) (Or.inl ⟨by rfl, ?_⟩) hHeld ?_
      rotate_left 1
      · intro w hSw; (try dsimp only at hSw); go_simp; try with_reducible rfl
      try simp only [Act.put, List.setIfInBounds_toArray, List.set_cons_zero, List.set_cons_succ]
      refine wpAnyH_take (i := 27) (v := ?_) (by simp only [List.getElem?_toArray, List.getElem?_cons_succ, List.getElem?_cons_zero]; rfl) (by kernel_rfl) (by kernel_rfl) (by kernel_rfl) (by intro _ _ _ h; exact h) (Or.inl ⟨by rfl, ?_⟩) hHeld ?_
      rotate_left 1
      · intro w hSw; (try dsimp only at hSw); go_simp; try with_reducible rfl
      try simp only [Act.put, List.setIfInBounds_toArray, List.set_cons_zero, List.set_cons_succ]
      refine wpAnyH_done (by kernel_rfl) ?_ _
      have FT_11 := Lib.hid (FT_10.out.below RB10.out (Nat.le_refl _))
      have FA_11 := Lib.hid (FA_10.out.below RB10.out (Nat.le_refl _))
      have FQ_11 := Lib.hid (FQ_10.out.below RB10.out (Nat.le_refl _))
      have FM_11 := Lib.hid (FM_10.out.below RB10.out (Nat.le_refl _))
      have HB11 := Lib.hid (HS10.out.trans (RB10.out.mono HS10.out.size))
      clear hHeld HS10 FT_10 FA_10 FQ_10 FM_10
      clear QF10 RB10; generalize w9.drew = w11 at *
      clear hsx hsy tx ty
      go_wp2_with fail
      refine (alive7 _ FT_11.out).mono ?_
      rintro e w12 ⟨rfl, B⟩
      have HB12 := Lib.hid (HB11.out.trans (B.mono HB11.out.size))
      have FT_12 := Lib.hid (FT_11.out.below B (Nat.le_refl _))
      have FA_12 := Lib.hid (FA_11.out.below B (Nat.le_refl _))
      have FQ_12 := Lib.hid (FQ_11.out.below B (Nat.le_refl _))
      have FM_12 := Lib.hid (FM_11.out.below B (Nat.le_refl _))
      clear B  HB11 FT_11 FA_11 FQ_11 FM_11
      have HE := Lib.hid (HB1.out.trans ((C9.out.trans (HB12.out.mono C9.out.size)).mono HB1.out.size))
      go_wp2_with fail
      go_ret
      exact ⟨rfl, HE.out⟩
    · have FT_10 := Lib.hid (FT_1.out.below C9.out (Nat.le_refl _))
      have FA_10 := Lib.hid (FA_1.out.below C9.out (Nat.le_refl _))
      have FQ_10 := Lib.hid (FQ_1.out.below C9.out (Nat.le_refl _))
      have FM_10 := M9
      have HS10 := Lib.hid (Below.refl w9.heap.size w9)
      go_wp2_with fail
      have hsx := HSX.out; have hsy := HSY.out; have tx := HT2.out; have ty := HT3.out; simp only [if_true, Bool.false_eq_true, if_false] at tx ty
      have RB10 := Lib.hid (below_drew0 w9)
      have QF10 := Lib.hid (show ∀ w', Below w9.heap.size w9 w' → w'.cell? ⟨w.heap.size + 1 + 1, 2, none⟩ = some (.int .i64 X2) ∧ w'.cell? ⟨w.heap.size + 1 + 1, 3, none⟩ = some (.int .i64 X3) ∧ w'.cell? ⟨w.heap.size, 2, none⟩ = some (.int .i64 a0_2) ∧ w'.cell? ⟨w.heap.size, 3, none⟩ = some (.int .i64 a0_3) ∧ w'.cell? ⟨w.heap.size + 1, 0, none⟩ = some (.int .i64 a1) ∧ w'.cell? ⟨w.heap.size + 1, 1, none⟩ = some (.int .i64 b1) from fun w' hb => ⟨(FM_10.out.below hb (Nat.le_refl _)).cell 2 (v := .int .i64 X2) rfl, (FM_10.out.below hb (Nat.le_refl _)).cell 3 (v := .int .i64 X3) rfl, (FA_10.out.below hb (Nat.le_refl _)).cell 2 (v := .int .i64 a0_2) rfl, (FA_10.out.below hb (Nat.le_refl _)).cell 3 (v := .int .i64 a0_3) rfl, (FQ_10.out.below hb (Nat.le_refl _)).cell 0 (v := .int .i64 a1) rfl, (FQ_10.out.below hb (Nat.le_refl _)).cell 1 (v := .int .i64 b1) rfl⟩)
      refine wp_region_held_drew (S := fun w' => w'.cell? ⟨w.heap.size + 1 + 1, 2, none⟩ = some (.int .i64 X2) ∧ w'.cell? ⟨w.heap.size + 1 + 1, 3, none⟩ = some (.int .i64 X3) ∧ w'.cell? ⟨w.heap.size, 2, none⟩ = some (.int .i64 a0_2) ∧ w'.cell? ⟨w.heap.size, 3, none⟩ = some (.int .i64 a0_3) ∧ w'.cell? ⟨w.heap.size + 1, 0, none⟩ = some (.int .i64 a1) ∧ w'.cell? ⟨w.heap.size + 1, 1, none⟩ = some (.int .i64 b1)) (by kernel_rfl) (QF10.out _ RB10.out) (fun hHeld => ?_)
      refine wpAnyH_take (i := 0) (v := ?_) (by simp only [List.getElem?_toArray, List.getElem?_cons_succ, List.getElem?_cons_zero]; rfl) (by kernel_rfl) (by kernel_rfl) (by kernel_rfl) (by intro _ _ _ h; exact h) (Or.inl ⟨by rfl, ?_⟩) hHeld ?_
      rotate_left 1
      · intro w hSw; (try dsimp only at hSw); go_simp; try with_reducible rfl
      try simp only [Act.put, List.setIfInBounds_toArray, List.set_cons_zero, List.set_cons_succ]
      refine wpAnyH_take (i := 1) (v := ?_) (by simp only [List.getElem?_toArray, List.getElem?_cons_succ, List.getElem?_cons_zero]; rfl) (by kernel_rfl) (by kernel_rfl) (by kernel_rfl) (by intro _ _ _ h; exact h) (Or.inl ⟨by rfl, ?_⟩) hHeld ?_
      rotate_left 1
      · intro w hSw; (try dsimp only at hSw); go_simp; try with_reducible rfl
      try simp only [Act.put, List.setIfInBounds_toArray, List.set_cons_zero, List.set_cons_succ]
      refine wpAnyH_take (i := 2) (v := ?_) (by simp only [List.getElem?_toArray, List.getElem?_cons_succ, List.getElem?_cons_zero]; rfl) (by kernel_rfl) (by kernel_rfl) (by kernel_rfl) (by intro _ _ _ h; exact h) (Or.inl ⟨by rfl, ?_⟩) hHeld ?_
      rotate_left 1
      · intro w hSw; (try dsimp only at hSw); go_simp; try with_reducible rfl
      try simp only [Act.put, List.setIfInBounds_toArray, List.set_cons_zero, List.set_cons_succ]
      refine wpAnyH_take (i := 3) (v := ?_) (by simp only [List.getElem?_toArray, List.getElem?_cons_succ, List.getElem?_cons_zero]; rfl) (by kernel_rfl) (by kernel_rfl) (by kernel_rfl) (by intro _ _ _ h; exact h) (Or.inl ⟨by rfl, ?_⟩) hHeld ?_
      rotate_left 1
      · intro w hSw; (try dsimp only at hSw); go_simp; try with_reducible rfl
      try simp only [Act.put, List.setIfInBounds_toArray, List.set_cons_zero, List.set_cons_succ]
      refine wpAnyH_take (i := 4) (v := ?_) (by simp only [List.getElem?_toArray, List.getElem?_cons_succ, List.getElem?_cons_zero]; rfl) (by kernel_rfl) (by kernel_rfl) (by kernel_rfl) (by intro _ _ _ h; exact h) (Or.inl ⟨by rfl, ?_⟩) hHeld ?_
      rotate_left 1
      · intro w hSw; (try dsimp only at hSw); go_simp; try with_reducible rfl
      try simp only [Act.put, List.setIfInBounds_toArray, List.set_cons_zero, List.set_cons_succ]
      refine wpAnyH_take (i := 5) (v := ?_) (by simp only [List.getElem?_toArray, List.getElem?_cons_succ, List.getElem?_cons_zero]; rfl) (by kernel_rfl) (by kernel_rfl) (by kernel_rfl) (by intro _ _ _ h; exact h) (Or.inl ⟨by rfl, ?_⟩) hHeld ?_
      rotate_left 1
      · intro w hSw; (try dsimp only at hSw); go_simp; try with_reducible rfl
      try simp only [Act.put, List.setIfInBounds_toArray, List.set_cons_zero, List.set_cons_succ]
      refine wpAnyH_take (i := 6) (v := ?_) (by simp only [List.getElem?_toArray, List.getElem?_cons_succ, List.getElem?_cons_zero]; rfl) (by kernel_rfl) (by kernel_rfl) (by kernel_rfl) (by intro _ _ _ h; exact h) (Or.inl ⟨by rfl, ?_⟩) hHeld ?_
      rotate_left 1
      · intro w hSw; (try dsimp only at hSw); go_simp; try with_reducible rfl
      try simp only [Act.put, List.setIfInBounds_toArray, List.set_cons_zero, List.set_cons_succ]
      refine wpAnyH_take (i := 7) (v := ?_) (by simp only [List.getElem?_toArray, List.getElem?_cons_succ, List.getElem?_cons_zero]; rfl) (by kernel_rfl) (by kernel_rfl) (by kernel_rfl) (by intro _ _ _ h; exact h) (Or.inl ⟨by rfl, ?_⟩) hHeld ?_
      rotate_left 1
      · intro w hSw; (try dsimp only at hSw); go_simp; try with_reducible rfl
      try simp only [Act.put, List.setIfInBounds_toArray, List.set_cons_zero, List.set_cons_succ]
      refine wpAnyH_take (i := 8) (v := ?_) (by simp only [List.getElem?_toArray, List.getElem?_cons_succ, List.getElem?_cons_zero]; rfl) (by kernel_rfl) (by kernel_rfl) (by kernel_rfl) (by intro _ _ _ h; exact h) (Or.inl ⟨by rfl, ?_⟩) hHeld ?_
      rotate_left 1
      · intro w hSw; (try dsimp only at hSw); go_simp; try with_reducible rfl
      try simp only [Act.put, List.setIfInBounds_toArray, List.set_cons_zero, List.set_cons_succ]
      refine wpAnyH_take (i := 9) (v := ?_) (by simp only [List.getElem?_toArray, List.getElem?_cons_succ, List.getElem?_cons_zero]; rfl) (by kernel_rfl) (by kernel_rfl) (by kernel_rfl) (by intro _ _ _ h; exact h) (Or.inl ⟨by rfl, ?_⟩) hHeld ?_
      rotate_left 1
      · intro w hSw; (try dsimp only at hSw); go_simp; try with_reducible rfl
      try simp only [Act.put, List.setIfInBounds_toArray, List.set_cons_zero, List.set_cons_succ]
      refine wpAnyH_take (i := 10) (v := ?_) (by simp only [List.getElem?_toArray, List.getElem?_cons_succ, List.getElem?_cons_zero]; rfl) (by kernel_rfl) (by kernel_rfl) (by kernel_rfl) (by intro _ _ _ h; exact h) (Or.inl ⟨by rfl, ?_⟩) hHeld ?_
      rotate_left 1
      · intro w hSw; (try dsimp only at hSw); go_simp; try with_reducible rfl
      try simp only [Act.put, List.setIfInBounds_toArray, List.set_cons_zero, List.set_cons_succ]
      refine wpAnyH_take (i := 11) (v := ?_) (by simp only [List.getElem?_toArray, List.getElem?_cons_succ, List.getElem?_cons_zero]; rfl) (by kernel_rfl) (by kernel_rfl) (by kernel_rfl) (by intro _ _ _ h; exact h) (Or.inl ⟨by rfl, ?_⟩) hHeld ?_
      rotate_left 1
      · intro w hSw; (try dsimp only at hSw); go_simp; try with_reducible rfl
      try simp only [Act.put, List.setIfInBounds_toArray, List.set_cons_zero, List.set_cons_succ]
      refine wpAnyH_take (i := 12) (v := ?_) (by simp only [List.getElem?_toArray, List.getElem?_cons_succ, List.getElem?_cons_zero]; rfl) (by kernel_rfl) (by kernel_rfl) (by kernel_rfl) (by intro _ _ _ h; exact h) (Or.inl ⟨by rfl, ?_⟩) hHeld ?_
      rotate_left 1
      · intro w hSw; (try dsimp only at hSw); go_simp; try with_reducible rfl
      try simp only [Act.put, List.setIfInBounds_toArray, List.set_cons_zero, List.set_cons_succ]
      refine wpAnyH_take (i := 13) (v := ?_) (by simp only [List.getElem?_toArray, List.getElem?_cons_succ, List.getElem?_cons_zero]; rfl) (by kernel_rfl) (by kernel_rfl) (by kernel_rfl) (by intro _ _ _ h; exact h) (Or.inl ⟨by rfl, ?_⟩) hHeld ?_
      rotate_left 1
      · intro w hSw; (try dsimp only at hSw); go_simp; try with_reducible rfl
      try simp only [Act.put, List.setIfInBounds_toArray, List.set_cons_zero, List.set_cons_succ]
      refine wpAnyH_take (i := 14) (v := ?_) (by simp only [List.getElem?_toArray, List.getElem?_cons_succ, List.getElem?_cons_zero]; rfl) (by kernel_rfl) (by kernel_rfl) (by kernel_rfl) (by intro _ _ _ h; exact h) (Or.inl ⟨by rfl, ?_⟩) hHeld ?_
      rotate_left 1
      · intro w hSw; (try dsimp only at hSw); go_simp; try with_reducible rfl
      try simp only [Act.put, List.setIfInBounds_toArray, List.set_cons_zero, List.set_cons_succ]
      refine wpAnyH_take (i := 15) (v := ?_) (by simp only [List.getElem?_toArray, List.getElem?_cons_succ, List.getElem?_cons_zero]; rfl) (by kernel_rfl) (by kernel_rfl) (by kernel_rfl) (by intro _ _ _ h; exact h) (Or.inl ⟨by rfl, ?_⟩) hHeld ?_
      rotate_left 1
      · intro w hSw; (try dsimp only at hSw); go_simp; try with_reducible rfl
      try simp only [Act.put, List.setIfInBounds_toArray, List.set_cons_zero, List.set_cons_succ]
      refine wpAnyH_take (i := 16) (v := ?_) (by simp only [List.getElem?_toArray, List.getElem?_cons_succ, List.getElem?_cons_zero]; rfl) (by kernel_rfl) (by kernel_rfl) (by kernel_rfl) (by intro _ _ _ h; exact h) (Or.inl ⟨by rfl, ?_⟩) hHeld ?_
      rotate_left 1
      · intro w hSw; (try dsimp only at hSw); go_simp; try with_reducible rfl
      try simp only [Act.put, List.setIfInBounds_toArray, List.set_cons_zero, List.set_cons_succ]
      refine wpAnyH_take (i := 17) (v := ?_) (by simp only [List.getElem?_toArray, List.getElem?_cons_succ, List.getElem?_cons_zero]; rfl) (by kernel_rfl) (by kernel_rfl) (by kernel_rfl) (by intro _ _ _ h; exact h) (Or.inl ⟨by rfl, ?_⟩) hHeld ?_
      rotate_left 1
      · intro w hSw; (try dsimp only at hSw); go_simp; try with_reducible rfl
      try simp only [Act.put, List.setIfInBounds_toArray, List.set_cons_zero, List.set_cons_succ]
      refine wpAnyH_take (i := 18) (v := ?_) (by simp only [List.getElem?_toArray, List.getElem?_cons_succ, List.getElem?_cons_zero]; rfl) (by kernel_rfl) (by kernel_rfl) (by kernel_rfl) (by intro _ _ _ h; exact h) (Or.inl ⟨by rfl, ?_⟩) hHeld ?_
      rotate_left 1
      · intro w hSw; (try dsimp only at hSw); go_simp; try with_reducible rfl
      try simp only [Act.put, List.setIfInBounds_toArray, List.set_cons_zero, List.set_cons_succ]
      refine wpAnyH_take (i := 19) (v := ?_) (by simp only [List.getElem?_toArray, List.getElem?_cons_succ, List.getElem?_cons_zero]; rfl) (by kernel_rfl) (by kernel_rfl) (by kernel_rfl) (by intro _ _ _ h; exact h) (Or.inl ⟨by rfl, ?_⟩) hHeld ?_
      rotate_left 1
      · intro w hSw; (try dsimp only at hSw); go_simp; try with_reducible rfl
      try simp only [Act.put, List.setIfInBounds_toArray, List.set_cons_zero, List.set_cons_succ]
      refine wpAnyH_take (i := 20) (v := ?_) (by simp only [List.getElem?_toArray, List.getElem?_cons_succ, List.getElem?_cons_zero]; rfl) (by kernel_rfl) (by kernel_rfl) (by kernel_rfl) (by intro _ _ _ h; exact h) (Or.inl ⟨by rfl, ?_⟩) hHeld ?_
      rotate_left 1
      · intro w hSw; (try dsimp only at hSw); go_simp; try with_reducible rfl
      try simp only [Act.put, List.setIfInBounds_toArray, List.set_cons_zero, List.set_cons_succ]
      refine wpAnyH_take (i := 21) (v := ?_) (by simp only [List.getElem?_toArray, List.getElem?_cons_succ, List.getElem?_cons_zero]; rfl) (by kernel_rfl) (by kernel_rfl) (by kernel_rfl) (by intro _ _ _ h; exact h) (Or.inl ⟨by rfl, ?_⟩) hHeld ?_
      rotate_left 1
      · intro w hSw; (try dsimp only at hSw); go_simp; try with_reducible rfl
      try simp only [Act.put, List.setIfInBounds_toArray, List.set_cons_zero, List.set_cons_succ]
      refine wpAnyH_take (i := 22) (v := ?_) (by simp only [List.getElem?_toArray, List.getElem?_cons_succ, List.getElem?_cons_zero]; rfl) (by kernel_rfl) (by kernel_rfl) (by kernel_rfl) (by intro _ _ _ h; exact h) (Or.inl ⟨by rfl, ?_⟩) hHeld ?_
      rotate_left 1
      · intro w hSw; (try dsimp only at hSw); go_simp; try with_reducible rfl
      try simp only [Act.put, List.setIfInBounds_toArray, List.set_cons_zero, List.set_cons_succ]
      refine wpAnyH_take (i := 23) (v := ?_) (by simp only [List.getElem?_toArray, List.getElem?_cons_succ, List.getElem?_cons_zero]; rfl) (by kernel_rfl) (by kernel_rfl) (by kernel_rfl) (by intro _ _ _ h; exact h) (Or.inl ⟨by rfl, ?_⟩) hHeld ?_
      rotate_left 1
      · intro w hSw; (try dsimp only at hSw); go_simp; try with_reducible rfl
      try simp only [Act.put, List.setIfInBounds_toArray, List.set_cons_zero, List.set_cons_succ]
      refine wpAnyH_take (i := 24) (v := ?_) (by simp only [List.getElem?_toArray, List.getElem?_cons_succ, List.getElem?_cons_zero]; rfl) (by kernel_rfl) (by kernel_rfl) (by kernel_rfl) (by intro _ _ _ h; exact h) (Or.inl ⟨by rfl, ?_⟩) hHeld ?_
      rotate_left 1
      · intro w hSw; (try dsimp only at hSw); go_simp; try with_reducible rfl
      try simp only [Act.put, List.setIfInBounds_toArray, List.set_cons_zero, List.set_cons_succ]
      refine wpAnyH_take (i := 25) (v := ?_) (by simp only [List.getElem?_toArray, List.getElem?_cons_succ, List.getElem?_cons_zero]; rfl) (by kernel_rfl) (by kernel_rfl) (by kernel_rfl) (by intro _ _ _ h; exact h) (Or.inl ⟨by rfl, ?_⟩) hHeld ?_
      rotate_left 1
      · intro w hSw; (try dsimp only at hSw); go_simp; try with_reducible rfl
      try simp only [Act.put, List.setIfInBounds_toArray, List.set_cons_zero, List.set_cons_succ]
      refine wpAnyH_take (i := 26) (v := ?_) (by simp only [List.getElem?_toArray, List.getElem?_cons_succ, List.getElem?_cons_zero]; rfl) (by kernel_rfl) (by kernel_rfl) (by kernel_rfl) (by intro _ _ _ h; exact h) (Or.inl ⟨by rfl, ?_⟩) hHeld ?_
      rotate_left 1
      · intro w hSw; (try dsimp only at hSw); go_simp; try with_reducible rfl
      try simp only [Act.put, List.setIfInBounds_toArray, List.set_cons_zero, List.set_cons_succ]
      refine wpAnyH_take (i := 27) (v := ?_) (by simp only [List.getElem?_toArray, List.getElem?_cons_succ, List.getElem?_cons_zero]; rfl) (by kernel_rfl) (by kernel_rfl) (by kernel_rfl) (by intro _ _ _ h; exact h) (Or.inl ⟨by rfl, ?_⟩) hHeld ?_
      rotate_left 1
      · intro w hSw; (try dsimp only at hSw); go_simp; try with_reducible rfl
      try simp only [Act.put, List.setIfInBounds_toArray, List.set_cons_zero, List.set_cons_succ]
      refine wpAnyH_done (by kernel_rfl) ?_ _
      have FT_11 := Lib.hid (FT_10.out.below RB10.out (Nat.le_refl _))
      have FA_11 := Lib.hid (FA_10.out.below RB10.out (Nat.le_refl _))
      have FQ_11 := Lib.hid (FQ_10.out.below RB10.out (Nat.le_refl _))
      have FM_11 := Lib.hid (FM_10.out.below RB10.out (Nat.le_refl _))
      have HB11 := Lib.hid (HS10.out.trans (RB10.out.mono HS10.out.size))
      clear hHeld HS10 FT_10 FA_10 FQ_10 FM_10
      clear QF10 RB10; generalize w9.drew = w11 at *
      clear hsx hsy tx ty
      have C12 := Lib.hid (C9.out.trans (HB11.out.mono C9.out.size))
      have M12 := Lib.hid (M9.out.below HB11.out (Nat.le_refl _))
      clear C9 M9 HB11 FT_11 FA_11 FQ_11 FM_11
      go_wp2_with fail
      rw [rounds_succ]
      go_upto_region 5 with (fail)
      have MD := Lib.hid (show Bx w11.drew (w.heap.size + 1 + 1) #[.int .i64 X0, .int .i64 X1, .int .i64 X2, .int .i64 X3, .int .i64 a0_4, .int .i64 a0_5, .int .i64 a0_6, .int .i64 a0_7] 48 from bx_dr M12.out)
      refine wp_region_held_drew (S := fun _ => True) (by kernel_rfl) trivial (fun _ => ?_)
      refine wpAnyH_genM w1.heap.size (w.heap.size + 1 + 1) 48 #[.int .i64 X0, .int .i64 X1, .int .i64 X2, .int .i64 X3, .int .i64 a0_4, .int .i64 a0_5, .int .i64 a0_6, .int .i64 a0_7] [⟨9, 4, [.int .i64 X4]⟩] [⟨0, 11, .int .i64 2⟩, ⟨1, 12, .pointer (some ⟨w.heap.size + 1 + 1, 4, none⟩)⟩, ⟨2, 13, .pointer (some ⟨w.heap.size + 1 + 1, 4, none⟩)⟩, ⟨3, 14, .int .i64 a0_4⟩, ⟨4, 15, .pointer (some ⟨w.heap.size + 1, 0, none⟩)⟩, ⟨5, 16, .int .i64 a1⟩, ⟨6, 17, .int .i64 X4⟩, ⟨7, 18, .pointer (some ⟨w.heap.size + 1 + 1, 4, none⟩)⟩, ⟨8, 19, .pointer (some ⟨w.heap.size + 1 + 1, 4, none⟩)⟩] (by kernel_rfl) (fun _ => trivial) (Nat.le_of_eq HSZ.out) MD.out ?_ ?_ ?_
      · refine ⟨?_, ?_, ?_, ?_, ?_, ?_, ?_, ?_, ?_, trivial⟩
        · intro a wz K hb ht hd hM hK
          have hbw := Lib.hid (C12.out.trans ((Below.refl w1.heap.size w11).drew.trans hb)); clear hb
          have HK := Lib.hid hK; clear hK
          all_goals (
          have hx6 := (ht 6 rfl).trans rfl
          have es6 : a.tmps.getD 6 undef = _ := getD_of hx6; clear hx6
          clear ht hd
          clear hM
          refine wpOp_step (by simp only [List.getElem?_toArray, List.getElem?_cons_succ, List.getElem?_cons_zero]; rfl) (fun K' hK' => ?_)
          have HK' := Lib.hid hK'; clear hK'
          go_simp
          exact HK'.out _ _ HK.out)
        · intro a wz K hb ht hd hM hK
          have hbw := Lib.hid (C12.out.trans ((Below.refl w1.heap.size w11).drew.trans hb)); clear hb
          have HK := Lib.hid hK; clear hK
          all_goals (
          have hx5 := (ht 5 rfl).trans rfl
          have es5 : a.tmps.getD 5 undef = _ := getD_of hx5; clear hx5
          have hx11 : a.tmps[11]? = some (.int .i64 2) := hd 0 _ rfl (by kernel_rfl)
          have es11 : a.tmps.getD 11 undef = _ := getD_of hx11; clear hx11
          clear ht hd
          clear hM
          refine wpOp_step (by simp only [List.getElem?_toArray, List.getElem?_cons_succ, List.getElem?_cons_zero]; rfl) (fun K' hK' => ?_)
          have HK' := Lib.hid hK'; clear hK'
          go_simp
          exact HK'.out _ _ HK.out)
        · intro a wz K hb ht hd hM hK
          have hbw := Lib.hid (C12.out.trans ((Below.refl w1.heap.size w11).drew.trans hb)); clear hb
          have HK := Lib.hid hK; clear hK
          all_goals (
          have hx12 : a.tmps[12]? = some (.pointer (some ⟨w.heap.size + 1 + 1, 4, none⟩)) := hd 1 _ rfl (by kernel_rfl)
          have es12 : a.tmps.getD 12 undef = _ := getD_of hx12; clear hx12
          clear ht hd
          clear hM
          refine wpOp_step (by simp only [List.getElem?_toArray, List.getElem?_cons_succ, List.getElem?_cons_zero]; rfl) (fun K' hK' => ?_)
          have HK' := Lib.hid hK'; clear hK'
          go_simp
          exact HK'.out _ _ HK.out)
        · intro a wz K hb ht hd hM hK
          have hbw := Lib.hid (C12.out.trans ((Below.refl w1.heap.size w11).drew.trans hb)); clear hb
          have HK := Lib.hid hK; clear hK
          all_goals (
          have hx13 : a.tmps[13]? = some (.pointer (some ⟨w.heap.size + 1 + 1, 4, none⟩)) := hd 2 _ rfl (by kernel_rfl)
          have es13 : a.tmps.getD 13 undef = _ := getD_of hx13; clear hx13
          clear ht hd
          have HM := Lib.hid (hM (fun s0 h => by cases h; kernel_rfl))
          clear hM
          have zc0 := HM.out.cell 4 (v := .int .i64 a0_4) rfl
          refine wpOp_step (by simp only [List.getElem?_toArray, List.getElem?_cons_succ, List.getElem?_cons_zero]; rfl) (fun K' hK' => ?_)
          have HK' := Lib.hid hK'; clear hK'
          go_simp
          exact HK'.out _ _ HK.out)
        · intro a wz K hb ht hd hM hK
          have hbw := Lib.hid (C12.out.trans ((Below.refl w1.heap.size w11).drew.trans hb)); clear hb
          have HK := Lib.hid hK; clear hK
          all_goals (
          have hx3 := (ht 3 rfl).trans rfl
          have es3 : a.tmps.getD 3 undef = _ := getD_of hx3; clear hx3
          clear ht hd
          clear hM
          refine wpOp_step (by simp only [List.getElem?_toArray, List.getElem?_cons_succ, List.getElem?_cons_zero]; rfl) (fun K' hK' => ?_)
          have HK' := Lib.hid hK'; clear hK'
          go_simp
          exact HK'.out _ _ HK.out)
        · intro a wz K hb ht hd hM hK
          have hbw := Lib.hid (C12.out.trans ((Below.refl w1.heap.size w11).drew.trans hb)); clear hb
          have HK := Lib.hid hK; clear hK
          all_goals (
          have hx15 : a.tmps[15]? = some (.pointer (some ⟨w.heap.size + 1, 0, none⟩)) := hd 4 _ rfl (by kernel_rfl)
          have es15 : a.tmps.getD 15 undef = _ := getD_of hx15; clear hx15
          clear ht hd
          clear hM
          have zc0 := (FQ_1.out.below hbw.out (Nat.le_refl _)).cell 0 (v := .int .i64 a1) rfl
          refine wpOp_step (by simp only [List.getElem?_toArray, List.getElem?_cons_succ, List.getElem?_cons_zero]; rfl) (fun K' hK' => ?_)
          have HK' := Lib.hid hK'; clear hK'
          go_simp
          exact HK'.out _ _ HK.out)
        · intro a wz K hb ht hd hM hK
          have hbw := Lib.hid (C12.out.trans ((Below.refl w1.heap.size w11).drew.trans hb)); clear hb
          have HK := Lib.hid hK; clear hK
          all_goals (
          have hx14 : a.tmps[14]? = some (.int .i64 a0_4) := hd 3 _ rfl (by kernel_rfl)
          have es14 : a.tmps.getD 14 undef = _ := getD_of hx14; clear hx14
          have hx16 : a.tmps[16]? = some (.int .i64 a1) := hd 5 _ rfl (by kernel_rfl)
          have es16 : a.tmps.getD 16 undef = _ := getD_of hx16; clear hx16
          clear ht hd
          clear hM
          have ex := HX4.out
          refine wpOp_step (by simp only [List.getElem?_toArray, List.getElem?_cons_succ, List.getElem?_cons_zero]; rfl) (fun K' hK' => ?_)
          have HK' := Lib.hid hK'; clear hK'
          go_simp
          exact HK'.out _ _ HK.out)
        · intro a wz K hb ht hd hM hK
          have hbw := Lib.hid (C12.out.trans ((Below.refl w1.heap.size w11).drew.trans hb)); clear hb
          have HK := Lib.hid hK; clear hK
          all_goals (
          have hx5 := (ht 5 rfl).trans rfl
          have es5 : a.tmps.getD 5 undef = _ := getD_of hx5; clear hx5
          have hx11 : a.tmps[11]? = some (.int .i64 2) := hd 0 _ rfl (by kernel_rfl)
          have es11 : a.tmps.getD 11 undef = _ := getD_of hx11; clear hx11
          clear ht hd
          clear hM
          refine wpOp_step (by simp only [List.getElem?_toArray, List.getElem?_cons_succ, List.getElem?_cons_zero]; rfl) (fun K' hK' => ?_)
          have HK' := Lib.hid hK'; clear hK'
          go_simp
          exact HK'.out _ _ HK.out)
        · intro a wz K hb ht hd hM hK
          have hbw := Lib.hid (C12.out.trans ((Below.refl w1.heap.size w11).drew.trans hb)); clear hb
          have HK := Lib.hid hK; clear hK
          all_goals (
          have hx18 : a.tmps[18]? = some (.pointer (some ⟨w.heap.size + 1 + 1, 4, none⟩)) := hd 7 _ rfl (by kernel_rfl)
          have es18 : a.tmps.getD 18 undef = _ := getD_of hx18; clear hx18
          clear ht hd
          clear hM
          refine wpOp_step (by simp only [List.getElem?_toArray, List.getElem?_cons_succ, List.getElem?_cons_zero]; rfl) (fun K' hK' => ?_)
          have HK' := Lib.hid hK'; clear hK'
          go_simp
          exact HK'.out _ _ HK.out)
      · refine ⟨?_, trivial⟩
        · intro a wz cs K hb ht hd hbx hsz hK
          have HK := Lib.hid hK; clear hK hb
          all_goals (
          have hx19 : a.tmps[19]? = some (.pointer (some ⟨w.heap.size + 1 + 1, 4, none⟩)) := hd 8 _ rfl (by kernel_rfl)
          have es19 : a.tmps.getD 19 undef = _ := getD_of hx19; clear hx19
          have hx17 : a.tmps[17]? = some (.int .i64 X4) := hd 6 _ rfl (by kernel_rfl)
          have es17 : a.tmps.getD 17 undef = _ := getD_of hx17; clear hx17
          clear ht hd
          obtain ⟨zv0, zc0⟩ := hbx.some (i := 4 + 0) (by rw [hsz]; simp); have zf0 := hbx.free (4 + 0)
          have zl := hbx.lt; clear hbx hsz
          refine wpOp_step (by simp only [List.getElem?_toArray, List.getElem?_cons_succ, List.getElem?_cons_zero]; rfl) (fun K' hK' => ?_)
          have HK' := Lib.hid hK'; clear hK'
          go_simp
          exact HK'.out _ _ HK.out)
      intro w13 hb hx
      have C13 := Lib.hid (C12.out.trans ((Below.refl w1.heap.size w11).drew.trans hb)); clear hb
      have M13 : Hid (Bx w13 (w.heap.size + 1 + 1) #[.int .i64 X0, .int .i64 X1, .int .i64 X2, .int .i64 X3, .int .i64 X4, .int .i64 a0_5, .int .i64 a0_6, .int .i64 a0_7] 48) := Lib.hid hx; clear hx M12 MD C12
      simp only [List.foldl_cons, List.foldl_nil, Act.put, List.setIfInBounds_toArray, List.set_cons_zero, List.set_cons_succ]
      go_upto_region 6 with (fail)
      have MD := Lib.hid (show Bx w13.drew (w.heap.size + 1 + 1) #[.int .i64 X0, .int .i64 X1, .int .i64 X2, .int .i64 X3, .int .i64 X4, .int .i64 a0_5, .int .i64 a0_6, .int .i64 a0_7] 48 from bx_dr M13.out)
      refine wp_region_held_drew (S := fun _ => True) (by kernel_rfl) trivial (fun _ => ?_)
      refine wpAnyH_genM w1.heap.size (w.heap.size + 1 + 1) 48 #[.int .i64 X0, .int .i64 X1, .int .i64 X2, .int .i64 X3, .int .i64 X4, .int .i64 a0_5, .int .i64 a0_6, .int .i64 a0_7] [⟨9, 5, [.int .i64 X5]⟩] [⟨0, 20, .int .i64 2⟩, ⟨1, 21, .pointer (some ⟨w.heap.size + 1 + 1, 4, none⟩)⟩, ⟨2, 22, .pointer (some ⟨w.heap.size + 1 + 1, 5, none⟩)⟩, ⟨3, 23, .int .i64 a0_5⟩, ⟨4, 24, .pointer (some ⟨w.heap.size + 1, 1, none⟩)⟩, ⟨5, 25, .int .i64 b1⟩, ⟨6, 26, .int .i64 X5⟩, ⟨7, 27, .pointer (some ⟨w.heap.size + 1 + 1, 4, none⟩)⟩, ⟨8, 28, .pointer (some ⟨w.heap.size + 1 + 1, 5, none⟩)⟩] (by kernel_rfl) (fun _ => trivial) (Nat.le_of_eq HSZ.out) MD.out ?_ ?_ ?_
      · refine ⟨?_, ?_, ?_, ?_, ?_, ?_, ?_, ?_, ?_, trivial⟩
        · intro a wz K hb ht hd hM hK
          have hbw := Lib.hid (C13.out.trans ((Below.refl w1.heap.size w13).drew.trans hb)); clear hb
          have HK := Lib.hid hK; clear hK
          all_goals (
          have hx6 := (ht 6 rfl).trans rfl
          have es6 : a.tmps.getD 6 undef = _ := getD_of hx6; clear hx6
          clear ht hd
          clear hM
          refine wpOp_step (by simp only [List.getElem?_toArray, List.getElem?_cons_succ, List.getElem?_cons_zero]; rfl) (fun K' hK' => ?_)
          have HK' := Lib.hid hK'; clear hK'
          go_simp
          exact HK'.out _ _ HK.out)
        · intro a wz K hb ht hd hM hK
          have hbw := Lib.hid (C13.out.trans ((Below.refl w1.heap.size w13).drew.trans hb)); clear hb
          have HK := Lib.hid hK; clear hK
          all_goals (
          have hx5 := (ht 5 rfl).trans rfl
          have es5 : a.tmps.getD 5 undef = _ := getD_of hx5; clear hx5
          have hx20 : a.tmps[20]? = some (.int .i64 2) := hd 0 _ rfl (by kernel_rfl)
          have es20 : a.tmps.getD 20 undef = _ := getD_of hx20; clear hx20
          clear ht hd
          clear hM
          refine wpOp_step (by simp only [List.getElem?_toArray, List.getElem?_cons_succ, List.getElem?_cons_zero]; rfl) (fun K' hK' => ?_)
          have HK' := Lib.hid hK'; clear hK'
          go_simp
          exact HK'.out _ _ HK.out)
        · intro a wz K hb ht hd hM hK
          have hbw := Lib.hid (C13.out.trans ((Below.refl w1.heap.size w13).drew.trans hb)); clear hb
          have HK := Lib.hid hK; clear hK
          all_goals (
          have hx21 : a.tmps[21]? = some (.pointer (some ⟨w.heap.size + 1 + 1, 4, none⟩)) := hd 1 _ rfl (by kernel_rfl)
          have es21 : a.tmps.getD 21 undef = _ := getD_of hx21; clear hx21
          clear ht hd
          clear hM
          refine wpOp_step (by simp only [List.getElem?_toArray, List.getElem?_cons_succ, List.getElem?_cons_zero]; rfl) (fun K' hK' => ?_)
          have HK' := Lib.hid hK'; clear hK'
          go_simp
          exact HK'.out _ _ HK.out)
        · intro a wz K hb ht hd hM hK
          have hbw := Lib.hid (C13.out.trans ((Below.refl w1.heap.size w13).drew.trans hb)); clear hb
          have HK := Lib.hid hK; clear hK
          all_goals (
          have hx22 : a.tmps[22]? = some (.pointer (some ⟨w.heap.size + 1 + 1, 5, none⟩)) := hd 2 _ rfl (by kernel_rfl)
          have es22 : a.tmps.getD 22 undef = _ := getD_of hx22; clear hx22
          clear ht hd
          have HM := Lib.hid (hM (fun s0 h => by cases h; kernel_rfl))
          clear hM
          have zc0 := HM.out.cell 5 (v := .int .i64 a0_5) rfl
          refine wpOp_step (by simp only [List.getElem?_toArray, List.getElem?_cons_succ, List.getElem?_cons_zero]; rfl) (fun K' hK' => ?_)
          have HK' := Lib.hid hK'; clear hK'
          go_simp
          exact HK'.out _ _ HK.out)
        · intro a wz K hb ht hd hM hK
          have hbw := Lib.hid (C13.out.trans ((Below.refl w1.heap.size w13).drew.trans hb)); clear hb
          have HK := Lib.hid hK; clear hK
          all_goals (
          have hx3 := (ht 3 rfl).trans rfl
          have es3 : a.tmps.getD 3 undef = _ := getD_of hx3; clear hx3
          clear ht hd
          clear hM
          refine wpOp_step (by simp only [List.getElem?_toArray, List.getElem?_cons_succ, List.getElem?_cons_zero]; rfl) (fun K' hK' => ?_)
          have HK' := Lib.hid hK'; clear hK'
          go_simp
          exact HK'.out _ _ HK.out)
        · intro a wz K hb ht hd hM hK
          have hbw := Lib.hid (C13.out.trans ((Below.refl w1.heap.size w13).drew.trans hb)); clear hb
          have HK := Lib.hid hK; clear hK
          all_goals (
          have hx24 : a.tmps[24]? = some (.pointer (some ⟨w.heap.size + 1, 1, none⟩)) := hd 4 _ rfl (by kernel_rfl)
          have es24 : a.tmps.getD 24 undef = _ := getD_of hx24; clear hx24
          clear ht hd
          clear hM
          have zc0 := (FQ_1.out.below hbw.out (Nat.le_refl _)).cell 1 (v := .int .i64 b1) rfl
          refine wpOp_step (by simp only [List.getElem?_toArray, List.getElem?_cons_succ, List.getElem?_cons_zero]; rfl) (fun K' hK' => ?_)
          have HK' := Lib.hid hK'; clear hK'
          go_simp
          exact HK'.out _ _ HK.out)
        · intro a wz K hb ht hd hM hK
          have hbw := Lib.hid (C13.out.trans ((Below.refl w1.heap.size w13).drew.trans hb)); clear hb
          have HK := Lib.hid hK; clear hK
          all_goals (
          have hx23 : a.tmps[23]? = some (.int .i64 a0_5) := hd 3 _ rfl (by kernel_rfl)
          have es23 : a.tmps.getD 23 undef = _ := getD_of hx23; clear hx23
          have hx25 : a.tmps[25]? = some (.int .i64 b1) := hd 5 _ rfl (by kernel_rfl)
          have es25 : a.tmps.getD 25 undef = _ := getD_of hx25; clear hx25
          clear ht hd
          clear hM
          have ex := HX5.out
          refine wpOp_step (by simp only [List.getElem?_toArray, List.getElem?_cons_succ, List.getElem?_cons_zero]; rfl) (fun K' hK' => ?_)
          have HK' := Lib.hid hK'; clear hK'
          go_simp
          exact HK'.out _ _ HK.out)
        · intro a wz K hb ht hd hM hK
          have hbw := Lib.hid (C13.out.trans ((Below.refl w1.heap.size w13).drew.trans hb)); clear hb
          have HK := Lib.hid hK; clear hK
          all_goals (
          have hx5 := (ht 5 rfl).trans rfl
          have es5 : a.tmps.getD 5 undef = _ := getD_of hx5; clear hx5
          have hx20 : a.tmps[20]? = some (.int .i64 2) := hd 0 _ rfl (by kernel_rfl)
          have es20 : a.tmps.getD 20 undef = _ := getD_of hx20; clear hx20
          clear ht hd
          clear hM
          refine wpOp_step (by simp only [List.getElem?_toArray, List.getElem?_cons_succ, List.getElem?_cons_zero]; rfl) (fun K' hK' => ?_)
          have HK' := Lib.hid hK'; clear hK'
          go_simp
          exact HK'.out _ _ HK.out)
        · intro a wz K hb ht hd hM hK
          have hbw := Lib.hid (C13.out.trans ((Below.refl w1.heap.size w13).drew.trans hb)); clear hb
          have HK := Lib.hid hK; clear hK
          all_goals (
          have hx27 : a.tmps[27]? = some (.pointer (some ⟨w.heap.size + 1 + 1, 4, none⟩)) := hd 7 _ rfl (by kernel_rfl)
          have es27 : a.tmps.getD 27 undef = _ := getD_of hx27; clear hx27
          clear ht hd
          clear hM
          refine wpOp_step (by simp only [List.getElem?_toArray, List.getElem?_cons_succ, List.getElem?_cons_zero]; rfl) (fun K' hK' => ?_)
          have HK' := Lib.hid hK'; clear hK'
          go_simp
          exact HK'.out _ _ HK.out)
      · refine ⟨?_, trivial⟩
        · intro a wz cs K hb ht hd hbx hsz hK
          have HK := Lib.hid hK; clear hK hb
          all_goals (
          have hx28 : a.tmps[28]? = some (.pointer (some ⟨w.heap.size + 1 + 1, 5, none⟩)) := hd 8 _ rfl (by kernel_rfl)
          have es28 : a.tmps.getD 28 undef = _ := getD_of hx28; clear hx28
          have hx26 : a.tmps[26]? = some (.int .i64 X5) := hd 6 _ rfl (by kernel_rfl)
          have es26 : a.tmps.getD 26 undef = _ := getD_of hx26; clear hx26
          clear ht hd
          obtain ⟨zv0, zc0⟩ := hbx.some (i := 5 + 0) (by rw [hsz]; simp); have zf0 := hbx.free (5 + 0)
          have zl := hbx.lt; clear hbx hsz
          refine wpOp_step (by simp only [List.getElem?_toArray, List.getElem?_cons_succ, List.getElem?_cons_zero]; rfl) (fun K' hK' => ?_)
          have HK' := Lib.hid hK'; clear hK'
          go_simp
          exact HK'.out _ _ HK.out)
      intro w14 hb hx
      have C14 := Lib.hid (C13.out.trans ((Below.refl w1.heap.size w13).drew.trans hb)); clear hb
      have M14 : Hid (Bx w14 (w.heap.size + 1 + 1) #[.int .i64 X0, .int .i64 X1, .int .i64 X2, .int .i64 X3, .int .i64 X4, .int .i64 X5, .int .i64 a0_6, .int .i64 a0_7] 48) := Lib.hid hx; clear hx M13 MD C13
      simp only [List.foldl_cons, List.foldl_nil, Act.put, List.setIfInBounds_toArray, List.set_cons_zero, List.set_cons_succ]
      cases g4
      · have FT_15 := Lib.hid (FT_1.out.below C14.out (Nat.le_refl _))
        have FA_15 := Lib.hid (FA_1.out.below C14.out (Nat.le_refl _))
        have FQ_15 := Lib.hid (FQ_1.out.below C14.out (Nat.le_refl _))
        have FM_15 := M14
        have HS15 := Lib.hid (Below.refl w14.heap.size w14)
        go_wp2_with fail
        have hsx := HSX.out; have hsy := HSY.out; have tx := HT4.out; have ty := HT5.out; simp only [if_true, Bool.false_eq_true, if_false] at tx ty
        have RB15 := Lib.hid (below_drew0 w14)
        have QF15 := Lib.hid (show ∀ w', Below w14.heap.size w14 w' → w'.cell? ⟨w.heap.size + 1 + 1, 4, none⟩ = some (.int .i64 X4) ∧ w'.cell? ⟨w.heap.size + 1 + 1, 5, none⟩ = some (.int .i64 X5) ∧ w'.cell? ⟨w.heap.size, 4, none⟩ = some (.int .i64 a0_4) ∧ w'.cell? ⟨w.heap.size, 5, none⟩ = some (.int .i64 a0_5) ∧ w'.cell? ⟨w.heap.size + 1, 0, none⟩ = some (.int .i64 a1) ∧ w'.cell? ⟨w.heap.size + 1, 1, none⟩ = some (.int .i64 b1) from fun w' hb => ⟨(FM_15.out.below hb (Nat.le_refl _)).cell 4 (v := .int .i64 X4) rfl, (FM_15.out.below hb (Nat.le_refl _)).cell 5 (v := .int .i64 X5) rfl, (FA_15.out.below hb (Nat.le_refl _)).cell 4 (v := .int .i64 a0_4) rfl, (FA_15.out.below hb (Nat.le_refl _)).cell 5 (v := .int .i64 a0_5) rfl, (FQ_15.out.below hb (Nat.le_refl _)).cell 0 (v := .int .i64 a1) rfl, (FQ_15.out.below hb (Nat.le_refl _)).cell 1 (v := .int .i64 b1) rfl⟩)
        refine wp_region_held_drew (S := fun w' => w'.cell? ⟨w.heap.size + 1 + 1, 4, none⟩ = some (.int .i64 X4) ∧ w'.cell? ⟨w.heap.size + 1 + 1, 5, none⟩ = some (.int .i64 X5) ∧ w'.cell? ⟨w.heap.size, 4, none⟩ = some (.int .i64 a0_4) ∧ w'.cell? ⟨w.heap.size, 5, none⟩ = some (.int .i64 a0_5) ∧ w'.cell? ⟨w.heap.size + 1, 0, none⟩ = some (.int .i64 a1) ∧ w'.cell? ⟨w.heap.size + 1, 1, none⟩ = some (.int .i64 b1)) (by kernel_rfl) (QF15.out _ RB15.out) (fun hHeld => ?_)
        refine wpAnyH_take (i := 0) (v := ?_) (by simp only [List.getElem?_toArray, List.getElem?_cons_succ, List.getElem?_cons_zero]; rfl) (by kernel_rfl) (by kernel_rfl) (by kernel_rfl) (by intro _ _ _ h; exact h) (Or.inl ⟨by rfl, ?_⟩) hHeld ?_
        rotate_left 1
        · intro w hSw; (try dsimp only at hSw); go_simp; try with_reducible rfl
        try simp only [Act.put, List.setIfInBounds_toArray, List.set_cons_zero, List.set_cons_succ]
        refine wpAnyH_take (i := 1) (v := ?_) (by simp only [List.getElem?_toArray, List.getElem?_cons_succ, List.getElem?_cons_zero]; rfl) (by kernel_rfl) (by kernel_rfl) (by kernel_rfl) (by intro _ _ _ h; exact h) (Or.inl ⟨by rfl, ?_⟩) hHeld ?_
        rotate_left 1
        · intro w hSw; (try dsimp only at hSw); go_simp; try with_reducible rfl
        try simp only [Act.put, List.setIfInBounds_toArray, List.set_cons_zero, List.set_cons_succ]
        refine wpAnyH_take (i := 2) (v := ?_) (by simp only [List.getElem?_toArray, List.getElem?_cons_succ, List.getElem?_cons_zero]; rfl) (by kernel_rfl) (by kernel_rfl) (by kernel_rfl) (by intro _ _ _ h; exact h) (Or.inl ⟨by rfl, ?_⟩) hHeld ?_
        rotate_left 1
        · intro w hSw; (try dsimp only at hSw); go_simp; try with_reducible rfl
        try simp only [Act.put, List.setIfInBounds_toArray, List.set_cons_zero, List.set_cons_succ]
        refine wpAnyH_take (i := 3) (v := ?_) (by simp only [List.getElem?_toArray, List.getElem?_cons_succ, List.getElem?_cons_zero]; rfl) (by kernel_rfl) (by kernel_rfl) (by kernel_rfl) (by intro _ _ _ h; exact h) (Or.inl ⟨by rfl, ?_⟩) hHeld ?_
        rotate_left 1
        · intro w hSw; (try dsimp only at hSw); go_simp; try with_reducible rfl
        try simp only [Act.put, List.setIfInBounds_toArray, List.set_cons_zero, List.set_cons_succ]
        refine wpAnyH_take (i := 4) (v := ?_) (by simp only [List.getElem?_toArray, List.getElem?_cons_succ, List.getElem?_cons_zero]; rfl) (by kernel_rfl) (by kernel_rfl) (by kernel_rfl) (by intro _ _ _ h; exact h) (Or.inl ⟨by rfl, ?_⟩) hHeld ?_
        rotate_left 1
        · intro w hSw; (try dsimp only at hSw); go_simp; try with_reducible rfl
        try simp only [Act.put, List.setIfInBounds_toArray, List.set_cons_zero, List.set_cons_succ]
        refine wpAnyH_take (i := 5) (v := ?_) (by simp only [List.getElem?_toArray, List.getElem?_cons_succ, List.getElem?_cons_zero]; rfl) (by kernel_rfl) (by kernel_rfl) (by kernel_rfl) (by intro _ _ _ h; exact h) (Or.inl ⟨by rfl, ?_⟩) hHeld ?_
        rotate_left 1
        · intro w hSw; (try dsimp only at hSw); go_simp; try with_reducible rfl
        try simp only [Act.put, List.setIfInBounds_toArray, List.set_cons_zero, List.set_cons_succ]
        refine wpAnyH_take (i := 6) (v := ?_) (by simp only [List.getElem?_toArray, List.getElem?_cons_succ, List.getElem?_cons_zero]; rfl) (by kernel_rfl) (by kernel_rfl) (by kernel_rfl) (by intro _ _ _ h; exact h) (Or.inl ⟨by rfl, ?_⟩) hHeld ?_
        rotate_left 1
        · intro w hSw; (try dsimp only at hSw); go_simp; try with_reducible rfl
        try simp only [Act.put, List.setIfInBounds_toArray, List.set_cons_zero, List.set_cons_succ]
        refine wpAnyH_take (i := 7) (v := ?_) (by simp only [List.getElem?_toArray, List.getElem?_cons_succ, List.getElem?_cons_zero]; rfl) (by kernel_rfl) (by kernel_rfl) (by kernel_rfl) (by intro _ _ _ h; exact h) (Or.inl ⟨by rfl, ?_⟩) hHeld ?_
        rotate_left 1
        · intro w hSw; (try dsimp only at hSw); go_simp; try with_reducible rfl
        try simp only [Act.put, List.setIfInBounds_toArray, List.set_cons_zero, List.set_cons_succ]
        refine wpAnyH_take (i := 8) (v := ?_) (by simp only [List.getElem?_toArray, List.getElem?_cons_succ, List.getElem?_cons_zero]; rfl) (by kernel_rfl) (by kernel_rfl) (by kernel_rfl) (by intro _ _ _ h; exact h) (Or.inl ⟨by rfl, ?_⟩) hHeld ?_
        rotate_left 1
        · intro w hSw; (try dsimp only at hSw); go_simp; try with_reducible rfl
        try simp only [Act.put, List.setIfInBounds_toArray, List.set_cons_zero, List.set_cons_succ]
        refine wpAnyH_take (i := 9) (v := ?_) (by simp only [List.getElem?_toArray, List.getElem?_cons_succ, List.getElem?_cons_zero]; rfl) (by kernel_rfl) (by kernel_rfl) (by kernel_rfl) (by intro _ _ _ h; exact h) (Or.inl ⟨by rfl, ?_⟩) hHeld ?_
        rotate_left 1
        · intro w hSw; (try dsimp only at hSw); go_simp; try with_reducible rfl
        try simp only [Act.put, List.setIfInBounds_toArray, List.set_cons_zero, List.set_cons_succ]
        refine wpAnyH_take (i := 10) (v := ?_) (by simp only [List.getElem?_toArray, List.getElem?_cons_succ, List.getElem?_cons_zero]; rfl) (by kernel_rfl) (by kernel_rfl) (by kernel_rfl) (by intro _ _ _ h; exact h) (Or.inl ⟨by rfl, ?_⟩) hHeld ?_
        rotate_left 1
        · intro w hSw; (try dsimp only at hSw); go_simp; try with_reducible rfl
        try simp only [Act.put, List.setIfInBounds_toArray, List.set_cons_zero, List.set_cons_succ]
        refine wpAnyH_take (i := 11) (v := ?_) (by simp only [List.getElem?_toArray, List.getElem?_cons_succ, List.getElem?_cons_zero]; rfl) (by kernel_rfl) (by kernel_rfl) (by kernel_rfl) (by intro _ _ _ h; exact h) (Or.inl ⟨by rfl, ?_⟩) hHeld ?_
        rotate_left 1
        · intro w hSw; (try dsimp only at hSw); go_simp; try with_reducible rfl
        try simp only [Act.put, List.setIfInBounds_toArray, List.set_cons_zero, List.set_cons_succ]
        refine wpAnyH_take (i := 12) (v := ?_) (by simp only [List.getElem?_toArray, List.getElem?_cons_succ, List.getElem?_cons_zero]; rfl) (by kernel_rfl) (by kernel_rfl) (by kernel_rfl) (by intro _ _ _ h; exact h) (Or.inl ⟨by rfl, ?_⟩) hHeld ?_
        rotate_left 1
        · intro w hSw; (try dsimp only at hSw); go_simp; try with_reducible rfl
        try simp only [Act.put, List.setIfInBounds_toArray, List.set_cons_zero, List.set_cons_succ]
        refine wpAnyH_take (i := 13) (v := ?_) (by simp only [List.getElem?_toArray, List.getElem?_cons_succ, List.getElem?_cons_zero]; rfl) (by kernel_rfl) (by kernel_rfl) (by kernel_rfl) (by intro _ _ _ h; exact h) (Or.inl ⟨by rfl, ?_⟩) hHeld ?_
        rotate_left 1
        · intro w hSw; (try dsimp only at hSw); go_simp; try with_reducible rfl
        try simp only [Act.put, List.setIfInBounds_toArray, List.set_cons_zero, List.set_cons_succ]
        refine wpAnyH_take (i := 14) (v := undef) (by simp only [List.getElem?_toArray, List.getElem?_cons_succ, List.getElem?_cons_zero]; rfl) (by kernel_rfl) (by kernel_rfl) (by kernel_rfl) (by intro _ _ _ h; exact h) (Or.inr ⟨by rfl, rfl⟩) hHeld ?_
        try simp only [Act.put, List.setIfInBounds_toArray, List.set_cons_zero, List.set_cons_succ]
        refine wpAnyH_take (i := 15) (v := undef) (by simp only [List.getElem?_toArray, List.getElem?_cons_succ, List.getElem?_cons_zero]; rfl) (by kernel_rfl) (by kernel_rfl) (by kernel_rfl) (by intro _ _ _ h; exact h) (Or.inr ⟨by rfl, rfl⟩) hHeld ?_
        try simp only [Act.put, List.setIfInBounds_toArray, List.set_cons_zero, List.set_cons_succ]
        refine wpAnyH_take (i := 16) (v := undef) (by simp only [List.getElem?_toArray, List.getElem?_cons_succ, List.getElem?_cons_zero]; rfl) (by kernel_rfl) (by kernel_rfl) (by kernel_rfl) (by intro _ _ _ h; exact h) (Or.inr ⟨by rfl, rfl⟩) hHeld ?_
        try simp only [Act.put, List.setIfInBounds_toArray, List.set_cons_zero, List.set_cons_succ]
        refine wpAnyH_take (i := 17) (v := undef) (by simp only [List.getElem?_toArray, List.getElem?_cons_succ, List.getElem?_cons_zero]; rfl) (by kernel_rfl) (by kernel_rfl) (by kernel_rfl) (by intro _ _ _ h; exact h) (Or.inr ⟨by rfl, rfl⟩) hHeld ?_
        try simp only [Act.put, List.setIfInBounds_toArray, List.set_cons_zero, List.set_cons_succ]
        refine wpAnyH_take (i := 18) (v := undef) (by simp only [List.getElem?_toArray, List.getElem?_cons_succ, List.getElem?_cons_zero]; rfl) (by kernel_rfl) (by kernel_rfl) (by kernel_rfl) (by intro _ _ _ h; exact h) (Or.inr ⟨by rfl, rfl⟩) hHeld ?_
        try simp only [Act.put, List.setIfInBounds_toArray, List.set_cons_zero, List.set_cons_succ]
        refine wpAnyH_take (i := 19) (v := undef) (by simp only [List.getElem?_toArray, List.getElem?_cons_succ, List.getElem?_cons_zero]; rfl) (by kernel_rfl) (by kernel_rfl) (by kernel_rfl) (by intro _ _ _ h; exact h) (Or.inr ⟨by rfl, rfl⟩) hHeld ?_
        try simp only [Act.put, List.setIfInBounds_toArray, List.set_cons_zero, List.set_cons_succ]
        refine wpAnyH_take (i := 20) (v := undef) (by simp only [List.getElem?_toArray, List.getElem?_cons_succ, List.getElem?_cons_zero]; rfl) (by kernel_rfl) (by kernel_rfl) (by kernel_rfl) (by intro _ _ _ h; exact h) (Or.inr ⟨by rfl, rfl⟩) hHeld ?_
        try simp only [Act.put, List.setIfInBounds_toArray, List.set_cons_zero, List.set_cons_succ]
        refine wpAnyH_take (i := 21) (v := undef) (by simp only [List.getElem?_toArray, List.getElem?_cons_succ, List.getElem?_cons_zero]; rfl) (by kernel_rfl) (by kernel_rfl) (by kernel_rfl) (by intro _ _ _ h; exact h) (Or.inr ⟨by rfl, rfl⟩) hHeld ?_
        try simp only [Act.put, List.setIfInBounds_toArray, List.set_cons_zero, List.set_cons_succ]
        refine wpAnyH_take (i := 22) (v := undef) (by simp only [List.getElem?_toArray, List.getElem?_cons_succ, List.getElem?_cons_zero]; rfl) (by kernel_rfl) (by kernel_rfl) (by kernel_rfl) (by intro _ _ _ h; exact h) (Or.inr ⟨by rfl, rfl⟩) hHeld ?_
        try simp only [Act.put, List.setIfInBounds_toArray, List.set_cons_zero, List.set_cons_succ]
        refine wpAnyH_take (i := 23) (v := undef) (by simp only [List.getElem?_toArray, List.getElem?_cons_succ, List.getElem?_cons_zero]; rfl) (by kernel_rfl) (by kernel_rfl) (by kernel_rfl) (by intro _ _ _ h; exact h) (Or.inr ⟨by rfl, rfl⟩) hHeld ?_
        try simp only [Act.put, List.setIfInBounds_toArray, List.set_cons_zero, List.set_cons_succ]
        refine wpAnyH_take (i := 24) (v := undef) (by simp only [List.getElem?_toArray, List.getElem?_cons_succ, List.getElem?_cons_zero]; rfl) (by kernel_rfl) (by kernel_rfl) (by kernel_rfl) (by intro _ _ _ h; exact h) (Or.inr ⟨by rfl, rfl⟩) hHeld ?_
        try simp only [Act.put, List.setIfInBounds_toArray, List.set_cons_zero, List.set_cons_succ]
        refine wpAnyH_take (i := 25) (v := undef) (by simp only [List.getElem?_toArray, List.getElem?_cons_succ, List.getElem?_cons_zero]; rfl) (by kernel_rfl) (by kernel_rfl) (by kernel_rfl) (by intro _ _ _ h; exact h) (Or.inr ⟨by rfl, rfl⟩) hHeld ?_
        try simp only [Act.put, List.setIfInBounds_toArray, List.set_cons_zero, List.set_cons_succ]
        refine wpAnyH_take (i := 26) (v := undef) (by simp only [List.getElem?_toArray, List.getElem?_cons_succ, List.getElem?_cons_zero]; rfl) (by kernel_rfl) (by kernel_rfl) (by kernel_rfl) (by intro _ _ _ h; exact h) (Or.inr ⟨by rfl, rfl⟩) hHeld ?_
        try simp only [Act.put, List.setIfInBounds_toArray, List.set_cons_zero, List.set_cons_succ]
        refine wpAnyH_take (i := 27) (v := ?_) (by simp only [List.getElem?_toArray, List.getElem?_cons_succ, List.getElem?_cons_zero]; rfl) (by kernel_rfl) (by kernel_rfl) (by kernel_rfl) (by intro _ _ _ h; exact h) (Or.inl ⟨by rfl, ?_⟩) hHeld ?_
        rotate_left 1
        · intro w hSw; (try dsimp only at hSw); go_simp; try with_reducible rfl
        try simp only [Act.put, List.setIfInBounds_toArray, List.set_cons_zero, List.set_cons_succ]
        refine wpAnyH_done (by kernel_rfl) ?_ _
        have FT_16 := Lib.hid (FT_15.out.below RB15.out (Nat.le_refl _))
        have FA_16 := Lib.hid (FA_15.out.below RB15.out (Nat.le_refl _))
        have FQ_16 := Lib.hid (FQ_15.out.below RB15.out (Nat.le_refl _))
        have FM_16 := Lib.hid (FM_15.out.below RB15.out (Nat.le_refl _))
        have HB16 := Lib.hid (HS15.out.trans (RB15.out.mono HS15.out.size))
        clear hHeld HS15 FT_15 FA_15 FQ_15 FM_15
        clear QF15 RB15; generalize w14.drew = w16 at *
        clear hsx hsy tx ty
        go_wp2_with fail
        refine (alive7 _ FT_16.out).mono ?_
        rintro e w17 ⟨rfl, B⟩
        have HB17 := Lib.hid (HB16.out.trans (B.mono HB16.out.size))
        have FT_17 := Lib.hid (FT_16.out.below B (Nat.le_refl _))
        have FA_17 := Lib.hid (FA_16.out.below B (Nat.le_refl _))
        have FQ_17 := Lib.hid (FQ_16.out.below B (Nat.le_refl _))
        have FM_17 := Lib.hid (FM_16.out.below B (Nat.le_refl _))
        clear B  HB16 FT_16 FA_16 FQ_16 FM_16
        have HE := Lib.hid (HB1.out.trans ((C14.out.trans (HB17.out.mono C14.out.size)).mono HB1.out.size))
        go_wp2_with fail
        go_ret
        exact ⟨rfl, HE.out⟩
      cases g5
      · have FT_15 := Lib.hid (FT_1.out.below C14.out (Nat.le_refl _))
        have FA_15 := Lib.hid (FA_1.out.below C14.out (Nat.le_refl _))
        have FQ_15 := Lib.hid (FQ_1.out.below C14.out (Nat.le_refl _))
        have FM_15 := M14
        have HS15 := Lib.hid (Below.refl w14.heap.size w14)
        go_wp2_with fail
        have hsx := HSX.out; have hsy := HSY.out; have tx := HT4.out; have ty := HT5.out; simp only [if_true, Bool.false_eq_true, if_false] at tx ty
        have RB15 := Lib.hid (below_drew0 w14)
        have QF15 := Lib.hid (show ∀ w', Below w14.heap.size w14 w' → w'.cell? ⟨w.heap.size + 1 + 1, 4, none⟩ = some (.int .i64 X4) ∧ w'.cell? ⟨w.heap.size + 1 + 1, 5, none⟩ = some (.int .i64 X5) ∧ w'.cell? ⟨w.heap.size, 4, none⟩ = some (.int .i64 a0_4) ∧ w'.cell? ⟨w.heap.size, 5, none⟩ = some (.int .i64 a0_5) ∧ w'.cell? ⟨w.heap.size + 1, 0, none⟩ = some (.int .i64 a1) ∧ w'.cell? ⟨w.heap.size + 1, 1, none⟩ = some (.int .i64 b1) from fun w' hb => ⟨(FM_15.out.below hb (Nat.le_refl _)).cell 4 (v := .int .i64 X4) rfl, (FM_15.out.below hb (Nat.le_refl _)).cell 5 (v := .int .i64 X5) rfl, (FA_15.out.below hb (Nat.le_refl _)).cell 4 (v := .int .i64 a0_4) rfl, (FA_15.out.below hb (Nat.le_refl _)).cell 5 (v := .int .i64 a0_5) rfl, (FQ_15.out.below hb (Nat.le_refl _)).cell 0 (v := .int .i64 a1) rfl, (FQ_15.out.below hb (Nat.le_refl _)).cell 1 (v := .int .i64 b1) rfl⟩)
        refine wp_region_held_drew (S := fun w' => w'.cell? ⟨w.heap.size + 1 + 1, 4, none⟩ = some (.int .i64 X4) ∧ w'.cell? ⟨w.heap.size + 1 + 1, 5, none⟩ = some (.int .i64 X5) ∧ w'.cell? ⟨w.heap.size, 4, none⟩ = some (.int .i64 a0_4) ∧ w'.cell? ⟨w.heap.size, 5, none⟩ = some (.int .i64 a0_5) ∧ w'.cell? ⟨w.heap.size + 1, 0, none⟩ = some (.int .i64 a1) ∧ w'.cell? ⟨w.heap.size + 1, 1, none⟩ = some (.int .i64 b1)) (by kernel_rfl) (QF15.out _ RB15.out) (fun hHeld => ?_)
        refine wpAnyH_take (i := 0) (v := ?_) (by simp only [List.getElem?_toArray, List.getElem?_cons_succ, List.getElem?_cons_zero]; rfl) (by kernel_rfl) (by kernel_rfl) (by kernel_rfl) (by intro _ _ _ h; exact h) (Or.inl ⟨by rfl, ?_⟩) hHeld ?_
        rotate_left 1
        · intro w hSw; (try dsimp only at hSw); go_simp; try with_reducible rfl
        try simp only [Act.put, List.setIfInBounds_toArray, List.set_cons_zero, List.set_cons_succ]
        refine wpAnyH_take (i := 1) (v := ?_) (by simp only [List.getElem?_toArray, List.getElem?_cons_succ, List.getElem?_cons_zero]; rfl) (by kernel_rfl) (by kernel_rfl) (by kernel_rfl) (by intro _ _ _ h; exact h) (Or.inl ⟨by rfl, ?_⟩) hHeld ?_
        rotate_left 1
        · intro w hSw; (try dsimp only at hSw); go_simp; try with_reducible rfl
        try simp only [Act.put, List.setIfInBounds_toArray, List.set_cons_zero, List.set_cons_succ]
        refine wpAnyH_take (i := 2) (v := ?_) (by simp only [List.getElem?_toArray, List.getElem?_cons_succ, List.getElem?_cons_zero]; rfl) (by kernel_rfl) (by kernel_rfl) (by kernel_rfl) (by intro _ _ _ h; exact h) (Or.inl ⟨by rfl, ?_⟩) hHeld ?_
        rotate_left 1
        · intro w hSw; (try dsimp only at hSw); go_simp; try with_reducible rfl
        try simp only [Act.put, List.setIfInBounds_toArray, List.set_cons_zero, List.set_cons_succ]
        refine wpAnyH_take (i := 3) (v := ?_) (by simp only [List.getElem?_toArray, List.getElem?_cons_succ, List.getElem?_cons_zero]; rfl) (by kernel_rfl) (by kernel_rfl) (by kernel_rfl) (by intro _ _ _ h; exact h) (Or.inl ⟨by rfl, ?_⟩) hHeld ?_
        rotate_left 1
        · intro w hSw; (try dsimp only at hSw); go_simp; try with_reducible rfl
        try simp only [Act.put, List.setIfInBounds_toArray, List.set_cons_zero, List.set_cons_succ]
        refine wpAnyH_take (i := 4) (v := ?_) (by simp only [List.getElem?_toArray, List.getElem?_cons_succ, List.getElem?_cons_zero]; rfl) (by kernel_rfl) (by kernel_rfl) (by kernel_rfl) (by intro _ _ _ h; exact h) (Or.inl ⟨by rfl, ?_⟩) hHeld ?_
        rotate_left 1
        · intro w hSw; (try dsimp only at hSw); go_simp; try with_reducible rfl
        try simp only [Act.put, List.setIfInBounds_toArray, List.set_cons_zero, List.set_cons_succ]
        refine wpAnyH_take (i := 5) (v := ?_) (by simp only [List.getElem?_toArray, List.getElem?_cons_succ, List.getElem?_cons_zero]; rfl) (by kernel_rfl) (by kernel_rfl) (by kernel_rfl) (by intro _ _ _ h; exact h) (Or.inl ⟨by rfl, ?_⟩) hHeld ?_
        rotate_left 1
        · intro w hSw; (try dsimp only at hSw); go_simp; try with_reducible rfl
        try simp only [Act.put, List.setIfInBounds_toArray, List.set_cons_zero, List.set_cons_succ]
        refine wpAnyH_take (i := 6) (v := ?_) (by simp only [List.getElem?_toArray, List.getElem?_cons_succ, List.getElem?_cons_zero]; rfl) (by kernel_rfl) (by kernel_rfl) (by kernel_rfl) (by intro _ _ _ h; exact h) (Or.inl ⟨by rfl, ?_⟩) hHeld ?_
        rotate_left 1
        · intro w hSw; (try dsimp only at hSw); go_simp; try with_reducible rfl
        try simp only [Act.put, List.setIfInBounds_toArray, List.set_cons_zero, List.set_cons_succ]
        refine wpAnyH_take (i := 7) (v := ?_) (by simp only [List.getElem?_toArray, List.getElem?_cons_succ, List.getElem?_cons_zero]; rfl) (by kernel_rfl) (by kernel_rfl) (by kernel_rfl) (by intro _ _ _ h; exact h) (Or.inl ⟨by rfl, ?_⟩) hHeld ?_
        rotate_left 1
        · intro w hSw; (try dsimp only at hSw); go_simp; try with_reducible rfl
        try simp only [Act.put, List.setIfInBounds_toArray, List.set_cons_zero, List.set_cons_succ]
        refine wpAnyH_take (i := 8) (v := ?_) (by simp only [List.getElem?_toArray, List.getElem?_cons_succ, List.getElem?_cons_zero]; rfl) (by kernel_rfl) (by kernel_rfl) (by kernel_rfl) (by intro _ _ _ h; exact h) (Or.inl ⟨by rfl, ?_⟩) hHeld ?_
        rotate_left 1
        · intro w hSw; (try dsimp only at hSw); go_simp; try with_reducible rfl
        try simp only [Act.put, List.setIfInBounds_toArray, List.set_cons_zero, List.set_cons_succ]
        refine wpAnyH_take (i := 9) (v := ?_) (by simp only [List.getElem?_toArray, List.getElem?_cons_succ, List.getElem?_cons_zero]; rfl) (by kernel_rfl) (by kernel_rfl) (by kernel_rfl) (by intro _ _ _ h; exact h) (Or.inl ⟨by rfl, ?_⟩) hHeld ?_
        rotate_left 1
        · intro w hSw; (try dsimp only at hSw); go_simp; try with_reducible rfl
        try simp only [Act.put, List.setIfInBounds_toArray, List.set_cons_zero, List.set_cons_succ]
        refine wpAnyH_take (i := 10) (v := ?_) (by simp only [List.getElem?_toArray, List.getElem?_cons_succ, List.getElem?_cons_zero]; rfl) (by kernel_rfl) (by kernel_rfl) (by kernel_rfl) (by intro _ _ _ h; exact h) (Or.inl ⟨by rfl, ?_⟩) hHeld ?_
        rotate_left 1
        · intro w hSw; (try dsimp only at hSw); go_simp; try with_reducible rfl
        try simp only [Act.put, List.setIfInBounds_toArray, List.set_cons_zero, List.set_cons_succ]
        refine wpAnyH_take (i := 11) (v := ?_) (by simp only [List.getElem?_toArray, List.getElem?_cons_succ, List.getElem?_cons_zero]; rfl) (by kernel_rfl) (by kernel_rfl) (by kernel_rfl) (by intro _ _ _ h; exact h) (Or.inl ⟨by rfl, ?_⟩) hHeld ?_
        rotate_left 1
        · intro w hSw; (try dsimp only at hSw); go_simp; try with_reducible rfl
        try simp only [Act.put, List.setIfInBounds_toArray, List.set_cons_zero, List.set_cons_succ]
        refine wpAnyH_take (i := 12) (v := ?_) (by simp only [List.getElem?_toArray, List.getElem?_cons_succ, List.getElem?_cons_zero]; rfl) (by kernel_rfl) (by kernel_rfl) (by kernel_rfl) (by intro _ _ _ h; exact h) (Or.inl ⟨by rfl, ?_⟩) hHeld ?_
        rotate_left 1
        · intro w hSw; (try dsimp only at hSw); go_simp; try with_reducible rfl
        try simp only [Act.put, List.setIfInBounds_toArray, List.set_cons_zero, List.set_cons_succ]
        refine wpAnyH_take (i := 13) (v := ?_) (by simp only [List.getElem?_toArray, List.getElem?_cons_succ, List.getElem?_cons_zero]; rfl) (by kernel_rfl) (by kernel_rfl) (by kernel_rfl) (by intro _ _ _ h; exact h) (Or.inl ⟨by rfl, ?_⟩) hHeld ?_
        rotate_left 1
        · intro w hSw; (try dsimp only at hSw); go_simp; try with_reducible rfl
        try simp only [Act.put, List.setIfInBounds_toArray, List.set_cons_zero, List.set_cons_succ]
        refine wpAnyH_take (i := 14) (v := ?_) (by simp only [List.getElem?_toArray, List.getElem?_cons_succ, List.getElem?_cons_zero]; rfl) (by kernel_rfl) (by kernel_rfl) (by kernel_rfl) (by intro _ _ _ h; exact h) (Or.inl ⟨by rfl, ?_⟩) hHeld ?_
        rotate_left 1
        · intro w hSw; (try dsimp only at hSw); go_simp; try with_reducible rfl
        try simp only [Act.put, List.setIfInBounds_toArray, List.set_cons_zero, List.set_cons_succ]
        refine wpAnyH_take (i := 15) (v := ?_) (by simp only [List.getElem?_toArray, List.getElem?_cons_succ, List.getElem?_cons_zero]; rfl) (by kernel_rfl) (by kernel_rfl) (by kernel_rfl) (by intro _ _ _ h; exact h) (Or.inl ⟨by rfl, ?_⟩) hHeld ?_
        rotate_left 1
        · intro w hSw; (try dsimp only at hSw); go_simp; try with_reducible rfl
        try simp only [Act.put, List.setIfInBounds_toArray, List.set_cons_zero, List.set_cons_succ]
        refine wpAnyH_take (i := 16) (v := ?_) (by simp only [List.getElem?_toArray, List.getElem?_cons_succ, List.getElem?_cons_zero]; rfl) (by kernel_rfl) (by kernel_rfl) (by kernel_rfl) (by intro _ _ _ h; exact h) (Or.inl ⟨by rfl, ?_⟩) hHeld ?_
        rotate_left 1
        · intro w hSw; (try dsimp only at hSw); go_simp; try with_reducible rfl
        try simp only [Act.put, List.setIfInBounds_toArray, List.set_cons_zero, List.set_cons_succ]
        refine wpAnyH_take (i := 17) (v := ?_) (by simp only [List.getElem?_toArray, List.getElem?_cons_succ, List.getElem?_cons_zero]; rfl) (by kernel_rfl) (by kernel_rfl) (by kernel_rfl) (by intro _ _ _ h; exact h) (Or.inl ⟨by rfl, ?_⟩) hHeld ?_
        rotate_left 1
        · intro w hSw; (try dsimp only at hSw); go_simp; try with_reducible rfl
        try simp only [Act.put, List.setIfInBounds_toArray, List.set_cons_zero, List.set_cons_succ]
        refine wpAnyH_take (i := 18) (v := ?_) (by simp only [List.getElem?_toArray, List.getElem?_cons_succ, List.getElem?_cons_zero]; rfl) (by kernel_rfl) (by kernel_rfl) (by kernel_rfl) (by intro _ _ _ h; exact h) (Or.inl ⟨by rfl, ?_⟩) hHeld ?_
        rotate_left 1
        · intro w hSw; (try dsimp only at hSw); go_simp; try with_reducible rfl
        try simp only [Act.put, List.setIfInBounds_toArray, List.set_cons_zero, List.set_cons_succ]
        refine wpAnyH_take (i := 19) (v := ?_) (by simp only [List.getElem?_toArray, List.getElem?_cons_succ, List.getElem?_cons_zero]; rfl) (by kernel_rfl) (by kernel_rfl) (by kernel_rfl) (by intro _ _ _ h; exact h) (Or.inl ⟨by rfl, ?_⟩) hHeld ?_
        rotate_left 1
        · intro w hSw; (try dsimp only at hSw); go_simp; try with_reducible rfl
        try simp only [Act.put, List.setIfInBounds_toArray, List.set_cons_zero, List.set_cons_succ]
        refine wpAnyH_take (i := 20) (v := ?_) (by simp only [List.getElem?_toArray, List.getElem?_cons_succ, List.getElem?_cons_zero]; rfl) (by kernel_rfl) (by kernel_rfl) (by kernel_rfl) (by intro _ _ _ h; exact h) (Or.inl ⟨by rfl, ?_⟩) hHeld ?_
        rotate_left 1
        · intro w hSw; (try dsimp only at hSw); go_simp; try with_reducible rfl
        try simp only [Act.put, List.setIfInBounds_toArray, List.set_cons_zero, List.set_cons_succ]
        refine wpAnyH_take (i := 21) (v := ?_) (by simp only [List.getElem?_toArray, List.getElem?_cons_succ, List.getElem?_cons_zero]; rfl) (by kernel_rfl) (by kernel_rfl) (by kernel_rfl) (by intro _ _ _ h; exact h) (Or.inl ⟨by rfl, ?_⟩) hHeld ?_
        rotate_left 1
        · intro w hSw; (try dsimp only at hSw); go_simp; try with_reducible rfl
        try simp only [Act.put, List.setIfInBounds_toArray, List.set_cons_zero, List.set_cons_succ]
        refine wpAnyH_take (i := 22) (v := ?_) (by simp only [List.getElem?_toArray, List.getElem?_cons_succ, List.getElem?_cons_zero]; rfl) (by kernel_rfl) (by kernel_rfl) (by kernel_rfl) (by intro _ _ _ h; exact h) (Or.inl ⟨by rfl, ?_⟩) hHeld ?_
        rotate_left 1
        · intro w hSw; (try dsimp only at hSw); go_simp; try with_reducible rfl
        try simp only [Act.put, List.setIfInBounds_toArray, List.set_cons_zero, List.set_cons_succ]
        refine wpAnyH_take (i := 23) (v := ?_) (by simp only [List.getElem?_toArray, List.getElem?_cons_succ, List.getElem?_cons_zero]; rfl) (by kernel_rfl) (by kernel_rfl) (by kernel_rfl) (by intro _ _ _ h; exact h) (Or.inl ⟨by rfl, ?_⟩) hHeld ?_
        rotate_left 1
        · intro w hSw; (try dsimp only at hSw); go_simp; try with_reducible rfl
        try simp only [Act.put, List.setIfInBounds_toArray, List.set_cons_zero, List.set_cons_succ]
        refine wpAnyH_take (i := 24) (v := ?_) (by simp only [List.getElem?_toArray, List.getElem?_cons_succ, List.getElem?_cons_zero]; rfl) (by kernel_rfl) (by kernel_rfl) (by kernel_rfl) (by intro _ _ _ h; exact h) (Or.inl ⟨by rfl, ?_⟩) hHeld ?_
        rotate_left 1
        · intro w hSw; (try dsimp only at hSw); go_simp; try with_reducible rfl
        try simp only [Act.put, List.setIfInBounds_toArray, List.set_cons_zero, List.set_cons_succ]
        refine wpAnyH_take (i := 25) (v := ?_) (by simp only [List.getElem?_toArray, List.getElem?_cons_succ, List.getElem?_cons_zero]; rfl) (by kernel_rfl) (by kernel_rfl) (by kernel_rfl) (by intro _ _ _ h; exact h) (Or.inl ⟨by rfl, ?_⟩) hHeld ?_
        rotate_left 1
        · intro w hSw; (try dsimp only at hSw); go_simp; try with_reducible rfl
        try simp only [Act.put, List.setIfInBounds_toArray, List.set_cons_zero, List.set_cons_succ]
        refine wpAnyH_take (i := 26) (v := ?_) (by simp only [List.getElem?_toArray, List.getElem?_cons_succ, List.getElem?_cons_zero]; rfl) (by kernel_rfl) (by kernel_rfl) (by kernel_rfl) (by intro _ _ _ h; exact h) (Or.inl ⟨by rfl, ?_⟩) hHeld ?_
        rotate_left 1
        · intro w hSw; (try dsimp only at hSw); go_simp; try with_reducible rfl
        try simp only [Act.put, List.setIfInBounds_toArray, List.set_cons_zero, List.set_cons_succ]
        refine wpAnyH_take (i := 27) (v := ?_) (by simp only [List.getElem?_toArray, List.getElem?_cons_succ, List.getElem?_cons_zero]; rfl) (by kernel_rfl) (by kernel_rfl) (by kernel_rfl) (by intro _ _ _ h; exact h) (Or.inl ⟨by rfl, ?_⟩) hHeld ?_
        rotate_left 1
        · intro w hSw; (try dsimp only at hSw); go_simp; try with_reducible rfl
        try simp only [Act.put, List.setIfInBounds_toArray, List.set_cons_zero, List.set_cons_succ]
        refine wpAnyH_done (by kernel_rfl) ?_ _
        have FT_16 := Lib.hid (FT_15.out.below RB15.out (Nat.le_refl _))
        have FA_16 := Lib.hid (FA_15.out.below RB15.out (Nat.le_refl _))
        have FQ_16 := Lib.hid (FQ_15.out.below RB15.out (Nat.le_refl _))
        have FM_16 := Lib.hid (FM_15.out.below RB15.out (Nat.le_refl _))
        have HB16 := Lib.hid (HS15.out.trans (RB15.out.mono HS15.out.size))
        clear hHeld HS15 FT_15 FA_15 FQ_15 FM_15
        clear QF15 RB15; generalize w14.drew = w16 at *
        clear hsx hsy tx ty
        go_wp2_with fail
        refine (alive7 _ FT_16.out).mono ?_
        rintro e w17 ⟨rfl, B⟩
        have HB17 := Lib.hid (HB16.out.trans (B.mono HB16.out.size))
        have FT_17 := Lib.hid (FT_16.out.below B (Nat.le_refl _))
        have FA_17 := Lib.hid (FA_16.out.below B (Nat.le_refl _))
        have FQ_17 := Lib.hid (FQ_16.out.below B (Nat.le_refl _))
        have FM_17 := Lib.hid (FM_16.out.below B (Nat.le_refl _))
        clear B  HB16 FT_16 FA_16 FQ_16 FM_16
        have HE := Lib.hid (HB1.out.trans ((C14.out.trans (HB17.out.mono C14.out.size)).mono HB1.out.size))
        go_wp2_with fail
        go_ret
        exact ⟨rfl, HE.out⟩
      · have FT_15 := Lib.hid (FT_1.out.below C14.out (Nat.le_refl _))
        have FA_15 := Lib.hid (FA_1.out.below C14.out (Nat.le_refl _))
        have FQ_15 := Lib.hid (FQ_1.out.below C14.out (Nat.le_refl _))
        have FM_15 := M14
        have HS15 := Lib.hid (Below.refl w14.heap.size w14)
        go_wp2_with fail
        have hsx := HSX.out; have hsy := HSY.out; have tx := HT4.out; have ty := HT5.out; simp only [if_true, Bool.false_eq_true, if_false] at tx ty
        have RB15 := Lib.hid (below_drew0 w14)
        have QF15 := Lib.hid (show ∀ w', Below w14.heap.size w14 w' → w'.cell? ⟨w.heap.size + 1 + 1, 4, none⟩ = some (.int .i64 X4) ∧ w'.cell? ⟨w.heap.size + 1 + 1, 5, none⟩ = some (.int .i64 X5) ∧ w'.cell? ⟨w.heap.size, 4, none⟩ = some (.int .i64 a0_4) ∧ w'.cell? ⟨w.heap.size, 5, none⟩ = some (.int .i64 a0_5) ∧ w'.cell? ⟨w.heap.size + 1, 0, none⟩ = some (.int .i64 a1) ∧ w'.cell? ⟨w.heap.size + 1, 1, none⟩ = some (.int .i64 b1) from fun w' hb => ⟨(FM_15.out.below hb (Nat.le_refl _)).cell 4 (v := .int .i64 X4) rfl, (FM_15.out.below hb (Nat.le_refl _)).cell 5 (v := .int .i64 X5) rfl, (FA_15.out.below hb (Nat.le_refl _)).cell 4 (v := .int .i64 a0_4) rfl, (FA_15.out.below hb (Nat.le_refl _)).cell 5 (v := .int .i64 a0_5) rfl, (FQ_15.out.below hb (Nat.le_refl _)).cell 0 (v := .int .i64 a1) rfl, (FQ_15.out.below hb (Nat.le_refl _)).cell 1 (v := .int .i64 b1) rfl⟩)
        refine wp_region_held_drew (S := fun w' => w'.cell? ⟨w.heap.size + 1 + 1, 4, none⟩ = some (.int .i64 X4) ∧ w'.cell? ⟨w.heap.size + 1 + 1, 5, none⟩ = some (.int .i64 X5) ∧ w'.cell? ⟨w.heap.size, 4, none⟩ = some (.int .i64 a0_4) ∧ w'.cell? ⟨w.heap.size, 5, none⟩ = some (.int .i64 a0_5) ∧ w'.cell? ⟨w.heap.size + 1, 0, none⟩ = some (.int .i64 a1) ∧ w'.cell? ⟨w.heap.size + 1, 1, none⟩ = some (.int .i64 b1)) (by kernel_rfl) (QF15.out _ RB15.out) (fun hHeld => ?_)
        refine wpAnyH_take (i := 0) (v := ?_) (by simp only [List.getElem?_toArray, List.getElem?_cons_succ, List.getElem?_cons_zero]; rfl) (by kernel_rfl) (by kernel_rfl) (by kernel_rfl) (by intro _ _ _ h; exact h) (Or.inl ⟨by rfl, ?_⟩) hHeld ?_
        rotate_left 1
        · intro w hSw; (try dsimp only at hSw); go_simp; try with_reducible rfl
        try simp only [Act.put, List.setIfInBounds_toArray, List.set_cons_zero, List.set_cons_succ]
        refine wpAnyH_take (i := 1) (v := ?_) (by simp only [List.getElem?_toArray, List.getElem?_cons_succ, List.getElem?_cons_zero]; rfl) (by kernel_rfl) (by kernel_rfl) (by kernel_rfl) (by intro _ _ _ h; exact h) (Or.inl ⟨by rfl, ?_⟩) hHeld ?_
        rotate_left 1
        · intro w hSw; (try dsimp only at hSw); go_simp; try with_reducible rfl
        try simp only [Act.put, List.setIfInBounds_toArray, List.set_cons_zero, List.set_cons_succ]
        refine wpAnyH_take (i := 2) (v := ?_) (by simp only [List.getElem?_toArray, List.getElem?_cons_succ, List.getElem?_cons_zero]; rfl) (by kernel_rfl) (by kernel_rfl) (by kernel_rfl) (by intro _ _ _ h; exact h) (Or.inl ⟨by rfl, ?_⟩) hHeld ?_
        rotate_left 1
        · intro w hSw; (try dsimp only at hSw); go_simp; try with_reducible rfl
        try simp only [Act.put, List.setIfInBounds_toArray, List.set_cons_zero, List.set_cons_succ]
        refine wpAnyH_take (i := 3) (v := ?_) (by simp only [List.getElem?_toArray, List.getElem?_cons_succ, List.getElem?_cons_zero]; rfl) (by kernel_rfl) (by kernel_rfl) (by kernel_rfl) (by intro _ _ _ h; exact h) (Or.inl ⟨by rfl, ?_⟩) hHeld ?_
        rotate_left 1
        · intro w hSw; (try dsimp only at hSw); go_simp; try with_reducible rfl
        try simp only [Act.put, List.setIfInBounds_toArray, List.set_cons_zero, List.set_cons_succ]
        refine wpAnyH_take (i := 4) (v := ?_) (by simp only [List.getElem?_toArray, List.getElem?_cons_succ, List.getElem?_cons_zero]; rfl) (by kernel_rfl) (by kernel_rfl) (by kernel_rfl) (by intro _ _ _ h; exact h) (Or.inl ⟨by rfl, ?_⟩) hHeld ?_
        rotate_left 1
        · intro w hSw; (try dsimp only at hSw); go_simp; try with_reducible rfl
        try simp only [Act.put, List.setIfInBounds_toArray, List.set_cons_zero, List.set_cons_succ]
        refine wpAnyH_take (i := 5) (v := ?_) (by simp only [List.getElem?_toArray, List.getElem?_cons_succ, List.getElem?_cons_zero]; rfl) (by kernel_rfl) (by kernel_rfl) (by kernel_rfl) (by intro _ _ _ h; exact h) (Or.inl ⟨by rfl, ?_⟩) hHeld ?_
        rotate_left 1
        · intro w hSw; (try dsimp only at hSw); go_simp; try with_reducible rfl
        try simp only [Act.put, List.setIfInBounds_toArray, List.set_cons_zero, List.set_cons_succ]
        refine wpAnyH_take (i := 6) (v := ?_) (by simp only [List.getElem?_toArray, List.getElem?_cons_succ, List.getElem?_cons_zero]; rfl) (by kernel_rfl) (by kernel_rfl) (by kernel_rfl) (by intro _ _ _ h; exact h) (Or.inl ⟨by rfl, ?_⟩) hHeld ?_
        rotate_left 1
        · intro w hSw; (try dsimp only at hSw); go_simp; try with_reducible rfl
        try simp only [Act.put, List.setIfInBounds_toArray, List.set_cons_zero, List.set_cons_succ]
        refine wpAnyH_take (i := 7) (v := ?_) (by simp only [List.getElem?_toArray, List.getElem?_cons_succ, List.getElem?_cons_zero]; rfl) (by kernel_rfl) (by kernel_rfl) (by kernel_rfl) (by intro _ _ _ h; exact h) (Or.inl ⟨by rfl, ?_⟩) hHeld ?_
        rotate_left 1
        · intro w hSw; (try dsimp only at hSw); go_simp; try with_reducible rfl
        try simp only [Act.put, List.setIfInBounds_toArray, List.set_cons_zero, List.set_cons_succ]
        refine wpAnyH_take (i := 8) (v := ?_) (by simp only [List.getElem?_toArray, List.getElem?_cons_succ, List.getElem?_cons_zero]; rfl) (by kernel_rfl) (by kernel_rfl) (by kernel_rfl) (by intro _ _ _ h; exact h) (Or.inl ⟨by rfl, ?_⟩) hHeld ?_
        rotate_left 1
        · intro w hSw; (try dsimp only at hSw); go_simp; try with_reducible rfl
        try simp only [Act.put, List.setIfInBounds_toArray, List.set_cons_zero, List.set_cons_succ]
        refine wpAnyH_take (i := 9) (v := ?_) (by simp only [List.getElem?_toArray, List.getElem?_cons_succ, List.getElem?_cons_zero]; rfl) (by kernel_rfl) (by kernel_rfl) (by kernel_rfl) (by intro _ _ _ h; exact h) (Or.inl ⟨by rfl, ?_⟩) hHeld ?_
        rotate_left 1
        · intro w hSw; (try dsimp only at hSw); go_simp; try with_reducible rfl
        try simp only [Act.put, List.setIfInBounds_toArray, List.set_cons_zero, List.set_cons_succ]
        refine wpAnyH_take (i := 10) (v := ?_) (by simp only [List.getElem?_toArray, List.getElem?_cons_succ, List.getElem?_cons_zero]; rfl) (by kernel_rfl) (by kernel_rfl) (by kernel_rfl) (by intro _ _ _ h; exact h) (Or.inl ⟨by rfl, ?_⟩) hHeld ?_
        rotate_left 1
        · intro w hSw; (try dsimp only at hSw); go_simp; try with_reducible rfl
        try simp only [Act.put, List.setIfInBounds_toArray, List.set_cons_zero, List.set_cons_succ]
        refine wpAnyH_take (i := 11) (v := ?_) (by simp only [List.getElem?_toArray, List.getElem?_cons_succ, List.getElem?_cons_zero]; rfl) (by kernel_rfl) (by kernel_rfl) (by kernel_rfl) (by intro _ _ _ h; exact h) (Or.inl ⟨by rfl, ?_⟩) hHeld ?_
        rotate_left 1
        · intro w hSw; (try dsimp only at hSw); go_simp; try with_reducible rfl
        try simp only [Act.put, List.setIfInBounds_toArray, List.set_cons_zero, List.set_cons_succ]
        refine wpAnyH_take (i := 12) (v := ?_) (by simp only [List.getElem?_toArray, List.getElem?_cons_succ, List.getElem?_cons_zero]; rfl) (by kernel_rfl) (by kernel_rfl) (by kernel_rfl) (by intro _ _ _ h; exact h) (Or.inl ⟨by rfl, ?_⟩) hHeld ?_
        rotate_left 1
        · intro w hSw; (try dsimp only at hSw); go_simp; try with_reducible rfl
        try simp only [Act.put, List.setIfInBounds_toArray, List.set_cons_zero, List.set_cons_succ]
        refine wpAnyH_take (i := 13) (v := ?_) (by simp only [List.getElem?_toArray, List.getElem?_cons_succ, List.getElem?_cons_zero]; rfl) (by kernel_rfl) (by kernel_rfl) (by kernel_rfl) (by intro _ _ _ h; exact h) (Or.inl ⟨by rfl, ?_⟩) hHeld ?_
        rotate_left 1
        · intro w hSw; (try dsimp only at hSw); go_simp; try with_reducible rfl
        try simp only [Act.put, List.setIfInBounds_toArray, List.set_cons_zero, List.set_cons_succ]
        refine wpAnyH_take (i := 14) (v := ?_) (by simp only [List.getElem?_toArray, List.getElem?_cons_succ, List.getElem?_cons_zero]; rfl) (by kernel_rfl) (by kernel_rfl) (by kernel_rfl) (by intro _ _ _ h; exact h) (Or.inl ⟨by rfl, ?_⟩) hHeld ?_
        rotate_left 1
        · intro w hSw; (try dsimp only at hSw); go_simp; try with_reducible rfl
        try simp only [Act.put, List.setIfInBounds_toArray, List.set_cons_zero, List.set_cons_succ]
        refine wpAnyH_take (i := 15) (v := ?_) (by simp only [List.getElem?_toArray, List.getElem?_cons_succ, List.getElem?_cons_zero]; rfl) (by kernel_rfl) (by kernel_rfl) (by kernel_rfl) (by intro _ _ _ h; exact h) (Or.inl ⟨by rfl, ?_⟩) hHeld ?_
        rotate_left 1
        · intro w hSw; (try dsimp only at hSw); go_simp; try with_reducible rfl
        try simp only [Act.put, List.setIfInBounds_toArray, List.set_cons_zero, List.set_cons_succ]
        refine wpAnyH_take (i := 16) (v := ?_) (by simp only [List.getElem?_toArray, List.getElem?_cons_succ, List.getElem?_cons_zero]; rfl) (by kernel_rfl) (by kernel_rfl) (by kernel_rfl) (by intro _ _ _ h; exact h) (Or.inl ⟨by rfl, ?_⟩) hHeld ?_
        rotate_left 1
        · intro w hSw; (try dsimp only at hSw); go_simp; try with_reducible rfl
        try simp only [Act.put, List.setIfInBounds_toArray, List.set_cons_zero, List.set_cons_succ]
        refine wpAnyH_take (i := 17) (v := ?_) (by simp only [List.getElem?_toArray, List.getElem?_cons_succ, List.getElem?_cons_zero]; rfl) (by kernel_rfl) (by kernel_rfl) (by kernel_rfl) (by intro _ _ _ h; exact h) (Or.inl ⟨by rfl, ?_⟩) hHeld ?_
        rotate_left 1
        · intro w hSw; (try dsimp only at hSw); go_simp; try with_reducible rfl
        try simp only [Act.put, List.setIfInBounds_toArray, List.set_cons_zero, List.set_cons_succ]
        refine wpAnyH_take (i := 18) (v := ?_) (by simp only [List.getElem?_toArray, List.getElem?_cons_succ, List.getElem?_cons_zero]; rfl) (by kernel_rfl) (by kernel_rfl) (by kernel_rfl) (by intro _ _ _ h; exact h) (Or.inl ⟨by rfl, ?_⟩) hHeld ?_
        rotate_left 1
        · intro w hSw; (try dsimp only at hSw); go_simp; try with_reducible rfl
        try simp only [Act.put, List.setIfInBounds_toArray, List.set_cons_zero, List.set_cons_succ]
        refine wpAnyH_take (i := 19) (v := ?_) (by simp only [List.getElem?_toArray, List.getElem?_cons_succ, List.getElem?_cons_zero]; rfl) (by kernel_rfl) (by kernel_rfl) (by kernel_rfl) (by intro _ _ _ h; exact h) (Or.inl ⟨by rfl, ?_⟩) hHeld ?_
        rotate_left 1
        · intro w hSw; (try dsimp only at hSw); go_simp; try with_reducible rfl
        try simp only [Act.put, List.setIfInBounds_toArray, List.set_cons_zero, List.set_cons_succ]
        refine wpAnyH_take (i := 20) (v := ?_) (by simp only [List.getElem?_toArray, List.getElem?_cons_succ, List.getElem?_cons_zero]; rfl) (by kernel_rfl) (by kernel_rfl) (by kernel_rfl) (by intro _ _ _ h; exact h) (Or.inl ⟨by rfl, ?_⟩) hHeld ?_
        rotate_left 1
        · intro w hSw; (try dsimp only at hSw); go_simp; try with_reducible rfl
        try simp only [Act.put, List.setIfInBounds_toArray, List.set_cons_zero, List.set_cons_succ]
        refine wpAnyH_take (i := 21) (v := ?_) (by simp only [List.getElem?_toArray, List.getElem?_cons_succ, List.getElem?_cons_zero]; rfl) (by kernel_rfl) (by kernel_rfl) (by kernel_rfl) (by intro _ _ _ h; exact h) (Or.inl ⟨by rfl, ?_⟩) hHeld ?_
        rotate_left 1
        · intro w hSw; (try dsimp only at hSw); go_simp; try with_reducible rfl
        try simp only [Act.put, List.setIfInBounds_toArray, List.set_cons_zero, List.set_cons_succ]
        refine wpAnyH_take (i := 22) (v := ?_) (by simp only [List.getElem?_toArray, List.getElem?_cons_succ, List.getElem?_cons_zero]; rfl) (by kernel_rfl) (by kernel_rfl) (by kernel_rfl) (by intro _ _ _ h; exact h) (Or.inl ⟨by rfl, ?_⟩) hHeld ?_
        rotate_left 1
        · intro w hSw; (try dsimp only at hSw); go_simp; try with_reducible rfl
        try simp only [Act.put, List.setIfInBounds_toArray, List.set_cons_zero, List.set_cons_succ]
        refine wpAnyH_take (i := 23) (v := ?_) (by simp only [List.getElem?_toArray, List.getElem?_cons_succ, List.getElem?_cons_zero]; rfl) (by kernel_rfl) (by kernel_rfl) (by kernel_rfl) (by intro _ _ _ h; exact h) (Or.inl ⟨by rfl, ?_⟩) hHeld ?_
        rotate_left 1
        · intro w hSw; (try dsimp only at hSw); go_simp; try with_reducible rfl
        try simp only [Act.put, List.setIfInBounds_toArray, List.set_cons_zero, List.set_cons_succ]
        refine wpAnyH_take (i := 24) (v := ?_) (by simp only [List.getElem?_toArray, List.getElem?_cons_succ, List.getElem?_cons_zero]; rfl) (by kernel_rfl) (by kernel_rfl) (by kernel_rfl) (by intro _ _ _ h; exact h) (Or.inl ⟨by rfl, ?_⟩) hHeld ?_
        rotate_left 1
        · intro w hSw; (try dsimp only at hSw); go_simp; try with_reducible rfl
        try simp only [Act.put, List.setIfInBounds_toArray, List.set_cons_zero, List.set_cons_succ]
        refine wpAnyH_take (i := 25) (v := ?_) (by simp only [List.getElem?_toArray, List.getElem?_cons_succ, List.getElem?_cons_zero]; rfl) (by kernel_rfl) (by kernel_rfl) (by kernel_rfl) (by intro _ _ _ h; exact h) (Or.inl ⟨by rfl, ?_⟩) hHeld ?_
        rotate_left 1
        · intro w hSw; (try dsimp only at hSw); go_simp; try with_reducible rfl
        try simp only [Act.put, List.setIfInBounds_toArray, List.set_cons_zero, List.set_cons_succ]
        refine wpAnyH_take (i := 26) (v := ?_) (by simp only [List.getElem?_toArray, List.getElem?_cons_succ, List.getElem?_cons_zero]; rfl) (by kernel_rfl) (by kernel_rfl) (by kernel_rfl) (by intro _ _ _ h; exact h) (Or.inl ⟨by rfl, ?_⟩) hHeld ?_
        rotate_left 1
        · intro w hSw; (try dsimp only at hSw); go_simp; try with_reducible rfl
        try simp only [Act.put, List.setIfInBounds_toArray, List.set_cons_zero, List.set_cons_succ]
        refine wpAnyH_take (i := 27) (v := ?_) (by simp only [List.getElem?_toArray, List.getElem?_cons_succ, List.getElem?_cons_zero]; rfl) (by kernel_rfl) (by kernel_rfl) (by kernel_rfl) (by intro _ _ _ h; exact h) (Or.inl ⟨by rfl, ?_⟩) hHeld ?_
        rotate_left 1
        · intro w hSw; (try dsimp only at hSw); go_simp; try with_reducible rfl
        try simp only [Act.put, List.setIfInBounds_toArray, List.set_cons_zero, List.set_cons_succ]
        refine wpAnyH_done (by kernel_rfl) ?_ _
        have FT_16 := Lib.hid (FT_15.out.below RB15.out (Nat.le_refl _))
        have FA_16 := Lib.hid (FA_15.out.below RB15.out (Nat.le_refl _))
        have FQ_16 := Lib.hid (FQ_15.out.below RB15.out (Nat.le_refl _))
        have FM_16 := Lib.hid (FM_15.out.below RB15.out (Nat.le_refl _))
        have HB16 := Lib.hid (HS15.out.trans (RB15.out.mono HS15.out.size))
        clear hHeld HS15 FT_15 FA_15 FQ_15 FM_15
        clear QF15 RB15; generalize w14.drew = w16 at *
        clear hsx hsy tx ty
        have C17 := Lib.hid (C14.out.trans (HB16.out.mono C14.out.size))
        have M17 := Lib.hid (M14.out.below HB16.out (Nat.le_refl _))
        clear C14 M14 HB16 FT_16 FA_16 FQ_16 FM_16
        go_wp2_with fail
        rw [rounds_succ]
        go_upto_region 5 with (fail)
        have MD := Lib.hid (show Bx w16.drew (w.heap.size + 1 + 1) #[.int .i64 X0, .int .i64 X1, .int .i64 X2, .int .i64 X3, .int .i64 X4, .int .i64 X5, .int .i64 a0_6, .int .i64 a0_7] 48 from bx_dr M17.out)
        refine wp_region_held_drew (S := fun _ => True) (by kernel_rfl) trivial (fun _ => ?_)
        refine wpAnyH_genM w1.heap.size (w.heap.size + 1 + 1) 48 #[.int .i64 X0, .int .i64 X1, .int .i64 X2, .int .i64 X3, .int .i64 X4, .int .i64 X5, .int .i64 a0_6, .int .i64 a0_7] [⟨9, 6, [.int .i64 X6]⟩] [⟨0, 11, .int .i64 3⟩, ⟨1, 12, .pointer (some ⟨w.heap.size + 1 + 1, 6, none⟩)⟩, ⟨2, 13, .pointer (some ⟨w.heap.size + 1 + 1, 6, none⟩)⟩, ⟨3, 14, .int .i64 a0_6⟩, ⟨4, 15, .pointer (some ⟨w.heap.size + 1, 0, none⟩)⟩, ⟨5, 16, .int .i64 a1⟩, ⟨6, 17, .int .i64 X6⟩, ⟨7, 18, .pointer (some ⟨w.heap.size + 1 + 1, 6, none⟩)⟩, ⟨8, 19, .pointer (some ⟨w.heap.size + 1 + 1, 6, none⟩)⟩] (by kernel_rfl) (fun _ => trivial) (Nat.le_of_eq HSZ.out) MD.out ?_ ?_ ?_
        · refine ⟨?_, ?_, ?_, ?_, ?_, ?_, ?_, ?_, ?_, trivial⟩
          · intro a wz K hb ht hd hM hK
            have hbw := Lib.hid (C17.out.trans ((Below.refl w1.heap.size w16).drew.trans hb)); clear hb
            have HK := Lib.hid hK; clear hK
            all_goals (
            have hx6 := (ht 6 rfl).trans rfl
            have es6 : a.tmps.getD 6 undef = _ := getD_of hx6; clear hx6
            clear ht hd
            clear hM
            refine wpOp_step (by simp only [List.getElem?_toArray, List.getElem?_cons_succ, List.getElem?_cons_zero]; rfl) (fun K' hK' => ?_)
            have HK' := Lib.hid hK'; clear hK'
            go_simp
            exact HK'.out _ _ HK.out)
          · intro a wz K hb ht hd hM hK
            have hbw := Lib.hid (C17.out.trans ((Below.refl w1.heap.size w16).drew.trans hb)); clear hb
            have HK := Lib.hid hK; clear hK
            all_goals (
            have hx5 := (ht 5 rfl).trans rfl
            have es5 : a.tmps.getD 5 undef = _ := getD_of hx5; clear hx5
            have hx11 : a.tmps[11]? = some (.int .i64 3) := hd 0 _ rfl (by kernel_rfl)
            have es11 : a.tmps.getD 11 undef = _ := getD_of hx11; clear hx11
            clear ht hd
            clear hM
            refine wpOp_step (by simp only [List.getElem?_toArray, List.getElem?_cons_succ, List.getElem?_cons_zero]; rfl) (fun K' hK' => ?_)
            have HK' := Lib.hid hK'; clear hK'
            go_simp
            exact HK'.out _ _ HK.out)
          · intro a wz K hb ht hd hM hK
            have hbw := Lib.hid (C17.out.trans ((Below.refl w1.heap.size w16).drew.trans hb)); clear hb
            have HK := Lib.hid hK; clear hK
            all_goals (
            have hx12 : a.tmps[12]? = some (.pointer (some ⟨w.heap.size + 1 + 1, 6, none⟩)) := hd 1 _ rfl (by kernel_rfl)
            have es12 : a.tmps.getD 12 undef = _ := getD_of hx12; clear hx12
            clear ht hd
            clear hM
            refine wpOp_step (by simp only [List.getElem?_toArray, List.getElem?_cons_succ, List.getElem?_cons_zero]; rfl) (fun K' hK' => ?_)
            have HK' := Lib.hid hK'; clear hK'
            go_simp
            exact HK'.out _ _ HK.out)
          · intro a wz K hb ht hd hM hK
            have hbw := Lib.hid (C17.out.trans ((Below.refl w1.heap.size w16).drew.trans hb)); clear hb
            have HK := Lib.hid hK; clear hK
            all_goals (
            have hx13 : a.tmps[13]? = some (.pointer (some ⟨w.heap.size + 1 + 1, 6, none⟩)) := hd 2 _ rfl (by kernel_rfl)
            have es13 : a.tmps.getD 13 undef = _ := getD_of hx13; clear hx13
            clear ht hd
            have HM := Lib.hid (hM (fun s0 h => by cases h; kernel_rfl))
            clear hM
            have zc0 := HM.out.cell 6 (v := .int .i64 a0_6) rfl
            refine wpOp_step (by simp only [List.getElem?_toArray, List.getElem?_cons_succ, List.getElem?_cons_zero]; rfl) (fun K' hK' => ?_)
            have HK' := Lib.hid hK'; clear hK'
            go_simp
            exact HK'.out _ _ HK.out)
          · intro a wz K hb ht hd hM hK
            have hbw := Lib.hid (C17.out.trans ((Below.refl w1.heap.size w16).drew.trans hb)); clear hb
            have HK := Lib.hid hK; clear hK
            all_goals (
            have hx3 := (ht 3 rfl).trans rfl
            have es3 : a.tmps.getD 3 undef = _ := getD_of hx3; clear hx3
            clear ht hd
            clear hM
            refine wpOp_step (by simp only [List.getElem?_toArray, List.getElem?_cons_succ, List.getElem?_cons_zero]; rfl) (fun K' hK' => ?_)
            have HK' := Lib.hid hK'; clear hK'
            go_simp
            exact HK'.out _ _ HK.out)
          · intro a wz K hb ht hd hM hK
            have hbw := Lib.hid (C17.out.trans ((Below.refl w1.heap.size w16).drew.trans hb)); clear hb
            have HK := Lib.hid hK; clear hK
            all_goals (
            have hx15 : a.tmps[15]? = some (.pointer (some ⟨w.heap.size + 1, 0, none⟩)) := hd 4 _ rfl (by kernel_rfl)
            have es15 : a.tmps.getD 15 undef = _ := getD_of hx15; clear hx15
            clear ht hd
            clear hM
            have zc0 := (FQ_1.out.below hbw.out (Nat.le_refl _)).cell 0 (v := .int .i64 a1) rfl
            refine wpOp_step (by simp only [List.getElem?_toArray, List.getElem?_cons_succ, List.getElem?_cons_zero]; rfl) (fun K' hK' => ?_)
            have HK' := Lib.hid hK'; clear hK'
            go_simp
            exact HK'.out _ _ HK.out)
          · intro a wz K hb ht hd hM hK
            have hbw := Lib.hid (C17.out.trans ((Below.refl w1.heap.size w16).drew.trans hb)); clear hb
            have HK := Lib.hid hK; clear hK
            all_goals (
            have hx14 : a.tmps[14]? = some (.int .i64 a0_6) := hd 3 _ rfl (by kernel_rfl)
            have es14 : a.tmps.getD 14 undef = _ := getD_of hx14; clear hx14
            have hx16 : a.tmps[16]? = some (.int .i64 a1) := hd 5 _ rfl (by kernel_rfl)
            have es16 : a.tmps.getD 16 undef = _ := getD_of hx16; clear hx16
            clear ht hd
            clear hM
            have ex := HX6.out
            refine wpOp_step (by simp only [List.getElem?_toArray, List.getElem?_cons_succ, List.getElem?_cons_zero]; rfl) (fun K' hK' => ?_)
            have HK' := Lib.hid hK'; clear hK'
            go_simp
            exact HK'.out _ _ HK.out)
          · intro a wz K hb ht hd hM hK
            have hbw := Lib.hid (C17.out.trans ((Below.refl w1.heap.size w16).drew.trans hb)); clear hb
            have HK := Lib.hid hK; clear hK
            all_goals (
            have hx5 := (ht 5 rfl).trans rfl
            have es5 : a.tmps.getD 5 undef = _ := getD_of hx5; clear hx5
            have hx11 : a.tmps[11]? = some (.int .i64 3) := hd 0 _ rfl (by kernel_rfl)
            have es11 : a.tmps.getD 11 undef = _ := getD_of hx11; clear hx11
            clear ht hd
            clear hM
            refine wpOp_step (by simp only [List.getElem?_toArray, List.getElem?_cons_succ, List.getElem?_cons_zero]; rfl) (fun K' hK' => ?_)
            have HK' := Lib.hid hK'; clear hK'
            go_simp
            exact HK'.out _ _ HK.out)
          · intro a wz K hb ht hd hM hK
            have hbw := Lib.hid (C17.out.trans ((Below.refl w1.heap.size w16).drew.trans hb)); clear hb
            have HK := Lib.hid hK; clear hK
            all_goals (
            have hx18 : a.tmps[18]? = some (.pointer (some ⟨w.heap.size + 1 + 1, 6, none⟩)) := hd 7 _ rfl (by kernel_rfl)
            have es18 : a.tmps.getD 18 undef = _ := getD_of hx18; clear hx18
            clear ht hd
            clear hM
            refine wpOp_step (by simp only [List.getElem?_toArray, List.getElem?_cons_succ, List.getElem?_cons_zero]; rfl) (fun K' hK' => ?_)
            have HK' := Lib.hid hK'; clear hK'
            go_simp
            exact HK'.out _ _ HK.out)
        · refine ⟨?_, trivial⟩
          · intro a wz cs K hb ht hd hbx hsz hK
            have HK := Lib.hid hK; clear hK hb
            all_goals (
            have hx19 : a.tmps[19]? = some (.pointer (some ⟨w.heap.size + 1 + 1, 6, none⟩)) := hd 8 _ rfl (by kernel_rfl)
            have es19 : a.tmps.getD 19 undef = _ := getD_of hx19; clear hx19
            have hx17 : a.tmps[17]? = some (.int .i64 X6) := hd 6 _ rfl (by kernel_rfl)
            have es17 : a.tmps.getD 17 undef = _ := getD_of hx17; clear hx17
            clear ht hd
            obtain ⟨zv0, zc0⟩ := hbx.some (i := 6 + 0) (by rw [hsz]; simp); have zf0 := hbx.free (6 + 0)
            have zl := hbx.lt; clear hbx hsz
            refine wpOp_step (by simp only [List.getElem?_toArray, List.getElem?_cons_succ, List.getElem?_cons_zero]; rfl) (fun K' hK' => ?_)
            have HK' := Lib.hid hK'; clear hK'
            go_simp
            exact HK'.out _ _ HK.out)
        intro w18 hb hx
        have C18 := Lib.hid (C17.out.trans ((Below.refl w1.heap.size w16).drew.trans hb)); clear hb
        have M18 : Hid (Bx w18 (w.heap.size + 1 + 1) #[.int .i64 X0, .int .i64 X1, .int .i64 X2, .int .i64 X3, .int .i64 X4, .int .i64 X5, .int .i64 X6, .int .i64 a0_7] 48) := Lib.hid hx; clear hx M17 MD C17
        simp only [List.foldl_cons, List.foldl_nil, Act.put, List.setIfInBounds_toArray, List.set_cons_zero, List.set_cons_succ]
        go_upto_region 6 with (fail)
        have MD := Lib.hid (show Bx w18.drew (w.heap.size + 1 + 1) #[.int .i64 X0, .int .i64 X1, .int .i64 X2, .int .i64 X3, .int .i64 X4, .int .i64 X5, .int .i64 X6, .int .i64 a0_7] 48 from bx_dr M18.out)
        refine wp_region_held_drew (S := fun _ => True) (by kernel_rfl) trivial (fun _ => ?_)
        refine wpAnyH_genM w1.heap.size (w.heap.size + 1 + 1) 48 #[.int .i64 X0, .int .i64 X1, .int .i64 X2, .int .i64 X3, .int .i64 X4, .int .i64 X5, .int .i64 X6, .int .i64 a0_7] [⟨9, 7, [.int .i64 X7]⟩] [⟨0, 20, .int .i64 3⟩, ⟨1, 21, .pointer (some ⟨w.heap.size + 1 + 1, 6, none⟩)⟩, ⟨2, 22, .pointer (some ⟨w.heap.size + 1 + 1, 7, none⟩)⟩, ⟨3, 23, .int .i64 a0_7⟩, ⟨4, 24, .pointer (some ⟨w.heap.size + 1, 1, none⟩)⟩, ⟨5, 25, .int .i64 b1⟩, ⟨6, 26, .int .i64 X7⟩, ⟨7, 27, .pointer (some ⟨w.heap.size + 1 + 1, 6, none⟩)⟩, ⟨8, 28, .pointer (some ⟨w.heap.size + 1 + 1, 7, none⟩)⟩] (by kernel_rfl) (fun _ => trivial) (Nat.le_of_eq HSZ.out) MD.out ?_ ?_ ?_
        · refine ⟨?_, ?_, ?_, ?_, ?_, ?_, ?_, ?_, ?_, trivial⟩
          · intro a wz K hb ht hd hM hK
            have hbw := Lib.hid (C18.out.trans ((Below.refl w1.heap.size w18).drew.trans hb)); clear hb
            have HK := Lib.hid hK; clear hK
            all_goals (
            have hx6 := (ht 6 rfl).trans rfl
            have es6 : a.tmps.getD 6 undef = _ := getD_of hx6; clear hx6
            clear ht hd
            clear hM
            refine wpOp_step (by simp only [List.getElem?_toArray, List.getElem?_cons_succ, List.getElem?_cons_zero]; rfl) (fun K' hK' => ?_)
            have HK' := Lib.hid hK'; clear hK'
            go_simp
            exact HK'.out _ _ HK.out)
          · intro a wz K hb ht hd hM hK
            have hbw := Lib.hid (C18.out.trans ((Below.refl w1.heap.size w18).drew.trans hb)); clear hb
            have HK := Lib.hid hK; clear hK
            all_goals (
            have hx5 := (ht 5 rfl).trans rfl
            have es5 : a.tmps.getD 5 undef = _ := getD_of hx5; clear hx5
            have hx20 : a.tmps[20]? = some (.int .i64 3) := hd 0 _ rfl (by kernel_rfl)
            have es20 : a.tmps.getD 20 undef = _ := getD_of hx20; clear hx20
            clear ht hd
            clear hM
            refine wpOp_step (by simp only [List.getElem?_toArray, List.getElem?_cons_succ, List.getElem?_cons_zero]; rfl) (fun K' hK' => ?_)
            have HK' := Lib.hid hK'; clear hK'
            go_simp
            exact HK'.out _ _ HK.out)
          · intro a wz K hb ht hd hM hK
            have hbw := Lib.hid (C18.out.trans ((Below.refl w1.heap.size w18).drew.trans hb)); clear hb
            have HK := Lib.hid hK; clear hK
            all_goals (
            have hx21 : a.tmps[21]? = some (.pointer (some ⟨w.heap.size + 1 + 1, 6, none⟩)) := hd 1 _ rfl (by kernel_rfl)
            have es21 : a.tmps.getD 21 undef = _ := getD_of hx21; clear hx21
            clear ht hd
            clear hM
            refine wpOp_step (by simp only [List.getElem?_toArray, List.getElem?_cons_succ, List.getElem?_cons_zero]; rfl) (fun K' hK' => ?_)
            have HK' := Lib.hid hK'; clear hK'
            go_simp
            exact HK'.out _ _ HK.out)
          · intro a wz K hb ht hd hM hK
            have hbw := Lib.hid (C18.out.trans ((Below.refl w1.heap.size w18).drew.trans hb)); clear hb
            have HK := Lib.hid hK; clear hK
            all_goals (
            have hx22 : a.tmps[22]? = some (.pointer (some ⟨w.heap.size + 1 + 1, 7, none⟩)) := hd 2 _ rfl (by kernel_rfl)
            have es22 : a.tmps.getD 22 undef = _ := getD_of hx22; clear hx22
            clear ht hd
            have HM := Lib.hid (hM (fun s0 h => by cases h; kernel_rfl))
            clear hM
            have zc0 := HM.out.cell 7 (v := .int .i64 a0_7) rfl
            refine wpOp_step (by simp only [List.getElem?_toArray, List.getElem?_cons_succ, List.getElem?_cons_zero]; rfl) (fun K' hK' => ?_)
            have HK' := Lib.hid hK'; clear hK'
            go_simp
            exact HK'.out _ _ HK.out)
          · intro a wz K hb ht hd hM hK
            have hbw := Lib.hid (C18.out.trans ((Below.refl w1.heap.size w18).drew.trans hb)); clear hb
            have HK := Lib.hid hK; clear hK
            all_goals (
            have hx3 := (ht 3 rfl).trans rfl
            have es3 : a.tmps.getD 3 undef = _ := getD_of hx3; clear hx3
            clear ht hd
            clear hM
            refine wpOp_step (by simp only [List.getElem?_toArray, List.getElem?_cons_succ, List.getElem?_cons_zero]; rfl) (fun K' hK' => ?_)
            have HK' := Lib.hid hK'; clear hK'
            go_simp
            exact HK'.out _ _ HK.out)
          · intro a wz K hb ht hd hM hK
            have hbw := Lib.hid (C18.out.trans ((Below.refl w1.heap.size w18).drew.trans hb)); clear hb
            have HK := Lib.hid hK; clear hK
            all_goals (
            have hx24 : a.tmps[24]? = some (.pointer (some ⟨w.heap.size + 1, 1, none⟩)) := hd 4 _ rfl (by kernel_rfl)
            have es24 : a.tmps.getD 24 undef = _ := getD_of hx24; clear hx24
            clear ht hd
            clear hM
            have zc0 := (FQ_1.out.below hbw.out (Nat.le_refl _)).cell 1 (v := .int .i64 b1) rfl
            refine wpOp_step (by simp only [List.getElem?_toArray, List.getElem?_cons_succ, List.getElem?_cons_zero]; rfl) (fun K' hK' => ?_)
            have HK' := Lib.hid hK'; clear hK'
            go_simp
            exact HK'.out _ _ HK.out)
          · intro a wz K hb ht hd hM hK
            have hbw := Lib.hid (C18.out.trans ((Below.refl w1.heap.size w18).drew.trans hb)); clear hb
            have HK := Lib.hid hK; clear hK
            all_goals (
            have hx23 : a.tmps[23]? = some (.int .i64 a0_7) := hd 3 _ rfl (by kernel_rfl)
            have es23 : a.tmps.getD 23 undef = _ := getD_of hx23; clear hx23
            have hx25 : a.tmps[25]? = some (.int .i64 b1) := hd 5 _ rfl (by kernel_rfl)
            have es25 : a.tmps.getD 25 undef = _ := getD_of hx25; clear hx25
            clear ht hd
            clear hM
            have ex := HX7.out
            refine wpOp_step (by simp only [List.getElem?_toArray, List.getElem?_cons_succ, List.getElem?_cons_zero]; rfl) (fun K' hK' => ?_)
            have HK' := Lib.hid hK'; clear hK'
            go_simp
            exact HK'.out _ _ HK.out)
          · intro a wz K hb ht hd hM hK
            have hbw := Lib.hid (C18.out.trans ((Below.refl w1.heap.size w18).drew.trans hb)); clear hb
            have HK := Lib.hid hK; clear hK
            all_goals (
            have hx5 := (ht 5 rfl).trans rfl
            have es5 : a.tmps.getD 5 undef = _ := getD_of hx5; clear hx5
            have hx20 : a.tmps[20]? = some (.int .i64 3) := hd 0 _ rfl (by kernel_rfl)
            have es20 : a.tmps.getD 20 undef = _ := getD_of hx20; clear hx20
            clear ht hd
            clear hM
            refine wpOp_step (by simp only [List.getElem?_toArray, List.getElem?_cons_succ, List.getElem?_cons_zero]; rfl) (fun K' hK' => ?_)
            have HK' := Lib.hid hK'; clear hK'
            go_simp
            exact HK'.out _ _ HK.out)
          · intro a wz K hb ht hd hM hK
            have hbw := Lib.hid (C18.out.trans ((Below.refl w1.heap.size w18).drew.trans hb)); clear hb
            have HK := Lib.hid hK; clear hK
            all_goals (
            have hx27 : a.tmps[27]? = some (.pointer (some ⟨w.heap.size + 1 + 1, 6, none⟩)) := hd 7 _ rfl (by kernel_rfl)
            have es27 : a.tmps.getD 27 undef = _ := getD_of hx27; clear hx27
            clear ht hd
            clear hM
            refine wpOp_step (by simp only [List.getElem?_toArray, List.getElem?_cons_succ, List.getElem?_cons_zero]; rfl) (fun K' hK' => ?_)
            have HK' := Lib.hid hK'; clear hK'
            go_simp
            exact HK'.out _ _ HK.out)
        · refine ⟨?_, trivial⟩
          · intro a wz cs K hb ht hd hbx hsz hK
            have HK := Lib.hid hK; clear hK hb
            all_goals (
            have hx28 : a.tmps[28]? = some (.pointer (some ⟨w.heap.size + 1 + 1, 7, none⟩)) := hd 8 _ rfl (by kernel_rfl)
            have es28 : a.tmps.getD 28 undef = _ := getD_of hx28; clear hx28
            have hx26 : a.tmps[26]? = some (.int .i64 X7) := hd 6 _ rfl (by kernel_rfl)
            have es26 : a.tmps.getD 26 undef = _ := getD_of hx26; clear hx26
            clear ht hd
            obtain ⟨zv0, zc0⟩ := hbx.some (i := 7 + 0) (by rw [hsz]; simp); have zf0 := hbx.free (7 + 0)
            have zl := hbx.lt; clear hbx hsz
            refine wpOp_step (by simp only [List.getElem?_toArray, List.getElem?_cons_succ, List.getElem?_cons_zero]; rfl) (fun K' hK' => ?_)
            have HK' := Lib.hid hK'; clear hK'
            go_simp
            exact HK'.out _ _ HK.out)
        intro w19 hb hx
        have C19 := Lib.hid (C18.out.trans ((Below.refl w1.heap.size w18).drew.trans hb)); clear hb
        have M19 : Hid (Bx w19 (w.heap.size + 1 + 1) #[.int .i64 X0, .int .i64 X1, .int .i64 X2, .int .i64 X3, .int .i64 X4, .int .i64 X5, .int .i64 X6, .int .i64 X7] 48) := Lib.hid hx; clear hx M18 MD C18
        simp only [List.foldl_cons, List.foldl_nil, Act.put, List.setIfInBounds_toArray, List.set_cons_zero, List.set_cons_succ]
        cases g6
        · have FT_20 := Lib.hid (FT_1.out.below C19.out (Nat.le_refl _))
          have FA_20 := Lib.hid (FA_1.out.below C19.out (Nat.le_refl _))
          have FQ_20 := Lib.hid (FQ_1.out.below C19.out (Nat.le_refl _))
          have FM_20 := M19
          have HS20 := Lib.hid (Below.refl w19.heap.size w19)
          go_wp2_with fail
          have hsx := HSX.out; have hsy := HSY.out; have tx := HT6.out; have ty := HT7.out; simp only [if_true, Bool.false_eq_true, if_false] at tx ty
          have RB20 := Lib.hid (below_drew0 w19)
          have QF20 := Lib.hid (show ∀ w', Below w19.heap.size w19 w' → w'.cell? ⟨w.heap.size + 1 + 1, 6, none⟩ = some (.int .i64 X6) ∧ w'.cell? ⟨w.heap.size + 1 + 1, 7, none⟩ = some (.int .i64 X7) ∧ w'.cell? ⟨w.heap.size, 6, none⟩ = some (.int .i64 a0_6) ∧ w'.cell? ⟨w.heap.size, 7, none⟩ = some (.int .i64 a0_7) ∧ w'.cell? ⟨w.heap.size + 1, 0, none⟩ = some (.int .i64 a1) ∧ w'.cell? ⟨w.heap.size + 1, 1, none⟩ = some (.int .i64 b1) from fun w' hb => ⟨(FM_20.out.below hb (Nat.le_refl _)).cell 6 (v := .int .i64 X6) rfl, (FM_20.out.below hb (Nat.le_refl _)).cell 7 (v := .int .i64 X7) rfl, (FA_20.out.below hb (Nat.le_refl _)).cell 6 (v := .int .i64 a0_6) rfl, (FA_20.out.below hb (Nat.le_refl _)).cell 7 (v := .int .i64 a0_7) rfl, (FQ_20.out.below hb (Nat.le_refl _)).cell 0 (v := .int .i64 a1) rfl, (FQ_20.out.below hb (Nat.le_refl _)).cell 1 (v := .int .i64 b1) rfl⟩)
          refine wp_region_held_drew (S := fun w' => w'.cell? ⟨w.heap.size + 1 + 1, 6, none⟩ = some (.int .i64 X6) ∧ w'.cell? ⟨w.heap.size + 1 + 1, 7, none⟩ = some (.int .i64 X7) ∧ w'.cell? ⟨w.heap.size, 6, none⟩ = some (.int .i64 a0_6) ∧ w'.cell? ⟨w.heap.size, 7, none⟩ = some (.int .i64 a0_7) ∧ w'.cell? ⟨w.heap.size + 1, 0, none⟩ = some (.int .i64 a1) ∧ w'.cell? ⟨w.heap.size + 1, 1, none⟩ = some (.int .i64 b1)) (by kernel_rfl) (QF20.out _ RB20.out) (fun hHeld => ?_)
          refine wpAnyH_take (i := 0) (v := ?_) (by simp only [List.getElem?_toArray, List.getElem?_cons_succ, List.getElem?_cons_zero]; rfl) (by kernel_rfl) (by kernel_rfl) (by kernel_rfl) (by intro _ _ _ h; exact h) (Or.inl ⟨by rfl, ?_⟩) hHeld ?_
          rotate_left 1
          · intro w hSw; (try dsimp only at hSw); go_simp; try with_reducible rfl
          try simp only [Act.put, List.setIfInBounds_toArray, List.set_cons_zero, List.set_cons_succ]
          refine wpAnyH_take (i := 1) (v := ?_) (by simp only [List.getElem?_toArray, List.getElem?_cons_succ, List.getElem?_cons_zero]; rfl) (by kernel_rfl) (by kernel_rfl) (by kernel_rfl) (by intro _ _ _ h; exact h) (Or.inl ⟨by rfl, ?_⟩) hHeld ?_
          rotate_left 1
          · intro w hSw; (try dsimp only at hSw); go_simp; try with_reducible rfl
          try simp only [Act.put, List.setIfInBounds_toArray, List.set_cons_zero, List.set_cons_succ]
          refine wpAnyH_take (i := 2) (v := ?_) (by simp only [List.getElem?_toArray, List.getElem?_cons_succ, List.getElem?_cons_zero]; rfl) (by kernel_rfl) (by kernel_rfl) (by kernel_rfl) (by intro _ _ _ h; exact h) (Or.inl ⟨by rfl, ?_⟩) hHeld ?_
          rotate_left 1
          · intro w hSw; (try dsimp only at hSw); go_simp; try with_reducible rfl
          try simp only [Act.put, List.setIfInBounds_toArray, List.set_cons_zero, List.set_cons_succ]
          refine wpAnyH_take (i := 3) (v := ?_) (by simp only [List.getElem?_toArray, List.getElem?_cons_succ, List.getElem?_cons_zero]; rfl) (by kernel_rfl) (by kernel_rfl) (by kernel_rfl) (by intro _ _ _ h; exact h) (Or.inl ⟨by rfl, ?_⟩) hHeld ?_
          rotate_left 1
          · intro w hSw; (try dsimp only at hSw); go_simp; try with_reducible rfl
          try simp only [Act.put, List.setIfInBounds_toArray, List.set_cons_zero, List.set_cons_succ]
          refine wpAnyH_take (i := 4) (v := ?_) (by simp only [List.getElem?_toArray, List.getElem?_cons_succ, List.getElem?_cons_zero]; rfl) (by kernel_rfl) (by kernel_rfl) (by kernel_rfl) (by intro _ _ _ h; exact h) (Or.inl ⟨by rfl, ?_⟩) hHeld ?_
          rotate_left 1
          · intro w hSw; (try dsimp only at hSw); go_simp; try with_reducible rfl
          try simp only [Act.put, List.setIfInBounds_toArray, List.set_cons_zero, List.set_cons_succ]
          refine wpAnyH_take (i := 5) (v := ?_) (by simp only [List.getElem?_toArray, List.getElem?_cons_succ, List.getElem?_cons_zero]; rfl) (by kernel_rfl) (by kernel_rfl) (by kernel_rfl) (by intro _ _ _ h; exact h) (Or.inl ⟨by rfl, ?_⟩) hHeld ?_
          rotate_left 1
          · intro w hSw; (try dsimp only at hSw); go_simp; try with_reducible rfl
          try simp only [Act.put, List.setIfInBounds_toArray, List.set_cons_zero, List.set_cons_succ]
          refine wpAnyH_take (i := 6) (v := ?_) (by simp only [List.getElem?_toArray, List.getElem?_cons_succ, List.getElem?_cons_zero]; rfl) (by kernel_rfl) (by kernel_rfl) (by kernel_rfl) (by intro _ _ _ h; exact h) (Or.inl ⟨by rfl, ?_⟩) hHeld ?_
          rotate_left 1
          · intro w hSw; (try dsimp only at hSw); go_simp; try with_reducible rfl
          try simp only [Act.put, List.setIfInBounds_toArray, List.set_cons_zero, List.set_cons_succ]
          refine wpAnyH_take (i := 7) (v := ?_) (by simp only [List.getElem?_toArray, List.getElem?_cons_succ, List.getElem?_cons_zero]; rfl) (by kernel_rfl) (by kernel_rfl) (by kernel_rfl) (by intro _ _ _ h; exact h) (Or.inl ⟨by rfl, ?_⟩) hHeld ?_
          rotate_left 1
          · intro w hSw; (try dsimp only at hSw); go_simp; try with_reducible rfl
          try simp only [Act.put, List.setIfInBounds_toArray, List.set_cons_zero, List.set_cons_succ]
          refine wpAnyH_take (i := 8) (v := ?_) (by simp only [List.getElem?_toArray, List.getElem?_cons_succ, List.getElem?_cons_zero]; rfl) (by kernel_rfl) (by kernel_rfl) (by kernel_rfl) (by intro _ _ _ h; exact h) (Or.inl ⟨by rfl, ?_⟩) hHeld ?_
          rotate_left 1
          · intro w hSw; (try dsimp only at hSw); go_simp; try with_reducible rfl
          try simp only [Act.put, List.setIfInBounds_toArray, List.set_cons_zero, List.set_cons_succ]
          refine wpAnyH_take (i := 9) (v := ?_) (by simp only [List.getElem?_toArray, List.getElem?_cons_succ, List.getElem?_cons_zero]; rfl) (by kernel_rfl) (by kernel_rfl) (by kernel_rfl) (by intro _ _ _ h; exact h) (Or.inl ⟨by rfl, ?_⟩) hHeld ?_
          rotate_left 1
          · intro w hSw; (try dsimp only at hSw); go_simp; try with_reducible rfl
          try simp only [Act.put, List.setIfInBounds_toArray, List.set_cons_zero, List.set_cons_succ]
          refine wpAnyH_take (i := 10) (v := ?_) (by simp only [List.getElem?_toArray, List.getElem?_cons_succ, List.getElem?_cons_zero]; rfl) (by kernel_rfl) (by kernel_rfl) (by kernel_rfl) (by intro _ _ _ h; exact h) (Or.inl ⟨by rfl, ?_⟩) hHeld ?_
          rotate_left 1
          · intro w hSw; (try dsimp only at hSw); go_simp; try with_reducible rfl
          try simp only [Act.put, List.setIfInBounds_toArray, List.set_cons_zero, List.set_cons_succ]
          refine wpAnyH_take (i := 11) (v := ?_) (by simp only [List.getElem?_toArray, List.getElem?_cons_succ, List.getElem?_cons_zero]; rfl) (by kernel_rfl) (by kernel_rfl) (by kernel_rfl) (by intro _ _ _ h; exact h) (Or.inl ⟨by rfl, ?_⟩) hHeld ?_
          rotate_left 1
          · intro w hSw; (try dsimp only at hSw); go_simp; try with_reducible rfl
          try simp only [Act.put, List.setIfInBounds_toArray, List.set_cons_zero, List.set_cons_succ]
          refine wpAnyH_take (i := 12) (v := ?_) (by simp only [List.getElem?_toArray, List.getElem?_cons_succ, List.getElem?_cons_zero]; rfl) (by kernel_rfl) (by kernel_rfl) (by kernel_rfl) (by intro _ _ _ h; exact h) (Or.inl ⟨by rfl, ?_⟩) hHeld ?_
          rotate_left 1
          · intro w hSw; (try dsimp only at hSw); go_simp; try with_reducible rfl
          try simp only [Act.put, List.setIfInBounds_toArray, List.set_cons_zero, List.set_cons_succ]
          refine wpAnyH_take (i := 13) (v := ?_) (by simp only [List.getElem?_toArray, List.getElem?_cons_succ, List.getElem?_cons_zero]; rfl) (by kernel_rfl) (by kernel_rfl) (by kernel_rfl) (by intro _ _ _ h; exact h) (Or.inl ⟨by rfl, ?_⟩) hHeld ?_
          rotate_left 1
          · intro w hSw; (try dsimp only at hSw); go_simp; try with_reducible rfl
          try simp only [Act.put, List.setIfInBounds_toArray, List.set_cons_zero, List.set_cons_succ]
          refine wpAnyH_take (i := 14) (v := undef) (by simp only [List.getElem?_toArray, List.getElem?_cons_succ, List.getElem?_cons_zero]; rfl) (by kernel_rfl) (by kernel_rfl) (by kernel_rfl) (by intro _ _ _ h; exact h) (Or.inr ⟨by rfl, rfl⟩) hHeld ?_
          try simp only [Act.put, List.setIfInBounds_toArray, List.set_cons_zero, List.set_cons_succ]
          refine wpAnyH_take (i := 15) (v := undef) (by simp only [List.getElem?_toArray, List.getElem?_cons_succ, List.getElem?_cons_zero]; rfl) (by kernel_rfl) (by kernel_rfl) (by kernel_rfl) (by intro _ _ _ h; exact h) (Or.inr ⟨by rfl, rfl⟩) hHeld ?_
          try simp only [Act.put, List.setIfInBounds_toArray, List.set_cons_zero, List.set_cons_succ]
          refine wpAnyH_take (i := 16) (v := undef) (by simp only [List.getElem?_toArray, List.getElem?_cons_succ, List.getElem?_cons_zero]; rfl) (by kernel_rfl) (by kernel_rfl) (by kernel_rfl) (by intro _ _ _ h; exact h) (Or.inr ⟨by rfl, rfl⟩) hHeld ?_
          try simp only [Act.put, List.setIfInBounds_toArray, List.set_cons_zero, List.set_cons_succ]
          refine wpAnyH_take (i := 17) (v := undef) (by simp only [List.getElem?_toArray, List.getElem?_cons_succ, List.getElem?_cons_zero]; rfl) (by kernel_rfl) (by kernel_rfl) (by kernel_rfl) (by intro _ _ _ h; exact h) (Or.inr ⟨by rfl, rfl⟩) hHeld ?_
          try simp only [Act.put, List.setIfInBounds_toArray, List.set_cons_zero, List.set_cons_succ]
          refine wpAnyH_take (i := 18) (v := undef) (by simp only [List.getElem?_toArray, List.getElem?_cons_succ, List.getElem?_cons_zero]; rfl) (by kernel_rfl) (by kernel_rfl) (by kernel_rfl) (by intro _ _ _ h; exact h) (Or.inr ⟨by rfl, rfl⟩) hHeld ?_
          try simp only [Act.put, List.setIfInBounds_toArray, List.set_cons_zero, List.set_cons_succ]
          refine wpAnyH_take (i := 19) (v := undef) (by simp only [List.getElem?_toArray, List.getElem?_cons_succ, List.getElem?_cons_zero]; rfl) (by kernel_rfl) (by kernel_rfl) (by kernel_rfl) (by intro _ _ _ h; exact h) (Or.inr ⟨by rfl, rfl⟩) hHeld ?_
          try simp only [Act.put, List.setIfInBounds_toArray, List.set_cons_zero, List.set_cons_succ]
          refine wpAnyH_take (i := 20) (v := undef) (by simp only [List.getElem?_toArray, List.getElem?_cons_succ, List.getElem?_cons_zero]; rfl) (by kernel_rfl) (by kernel_rfl) (by kernel_rfl) (by intro _ _ _ h; exact h) (Or.inr ⟨by rfl, rfl⟩) hHeld ?_
          try simp only [Act.put, List.setIfInBounds_toArray, List.set_cons_zero, List.set_cons_succ]
          refine wpAnyH_take (i := 21) (v := undef) (by simp only [List.getElem?_toArray, List.getElem?_cons_succ, List.getElem?_cons_zero]; rfl) (by kernel_rfl) (by kernel_rfl) (by kernel_rfl) (by intro _ _ _ h; exact h) (Or.inr ⟨by rfl, rfl⟩) hHeld ?_
          try simp only [Act.put, List.setIfInBounds_toArray, List.set_cons_zero, List.set_cons_succ]
          refine wpAnyH_take (i := 22) (v := undef) (by simp only [List.getElem?_toArray, List.getElem?_cons_succ, List.getElem?_cons_zero]; rfl) (by kernel_rfl) (by kernel_rfl) (by kernel_rfl) (by intro _ _ _ h; exact h) (Or.inr ⟨by rfl, rfl⟩) hHeld ?_
          try simp only [Act.put, List.setIfInBounds_toArray, List.set_cons_zero, List.set_cons_succ]
          refine wpAnyH_take (i := 23) (v := undef) (by simp only [List.getElem?_toArray, List.getElem?_cons_succ, List.getElem?_cons_zero]; rfl) (by kernel_rfl) (by kernel_rfl) (by kernel_rfl) (by intro _ _ _ h; exact h) (Or.inr ⟨by rfl, rfl⟩) hHeld ?_
          try simp only [Act.put, List.setIfInBounds_toArray, List.set_cons_zero, List.set_cons_succ]
          refine wpAnyH_take (i := 24) (v := undef) (by simp only [List.getElem?_toArray, List.getElem?_cons_succ, List.getElem?_cons_zero]; rfl) (by kernel_rfl) (by kernel_rfl) (by kernel_rfl) (by intro _ _ _ h; exact h) (Or.inr ⟨by rfl, rfl⟩) hHeld ?_
          try simp only [Act.put, List.setIfInBounds_toArray, List.set_cons_zero, List.set_cons_succ]
          refine wpAnyH_take (i := 25) (v := undef) (by simp only [List.getElem?_toArray, List.getElem?_cons_succ, List.getElem?_cons_zero]; rfl) (by kernel_rfl) (by kernel_rfl) (by kernel_rfl) (by intro _ _ _ h; exact h) (Or.inr ⟨by rfl, rfl⟩) hHeld ?_
          try simp only [Act.put, List.setIfInBounds_toArray, List.set_cons_zero, List.set_cons_succ]
          refine wpAnyH_take (i := 26) (v := undef) (by simp only [List.getElem?_toArray, List.getElem?_cons_succ, List.getElem?_cons_zero]; rfl) (by kernel_rfl) (by kernel_rfl) (by kernel_rfl) (by intro _ _ _ h; exact h) (Or.inr ⟨by rfl, rfl⟩) hHeld ?_
          try simp only [Act.put, List.setIfInBounds_toArray, List.set_cons_zero, List.set_cons_succ]
          refine wpAnyH_take (i := 27) (v := ?_) (by simp only [List.getElem?_toArray, List.getElem?_cons_succ, List.getElem?_cons_zero]; rfl) (by kernel_rfl) (by kernel_rfl) (by kernel_rfl) (by intro _ _ _ h; exact h) (Or.inl ⟨by rfl, ?_⟩) hHeld ?_
          rotate_left 1
          · intro w hSw; (try dsimp only at hSw); go_simp; try with_reducible rfl
          try simp only [Act.put, List.setIfInBounds_toArray, List.set_cons_zero, List.set_cons_succ]
          refine wpAnyH_done (by kernel_rfl) ?_ _
          have FT_21 := Lib.hid (FT_20.out.below RB20.out (Nat.le_refl _))
          have FA_21 := Lib.hid (FA_20.out.below RB20.out (Nat.le_refl _))
          have FQ_21 := Lib.hid (FQ_20.out.below RB20.out (Nat.le_refl _))
          have FM_21 := Lib.hid (FM_20.out.below RB20.out (Nat.le_refl _))
          have HB21 := Lib.hid (HS20.out.trans (RB20.out.mono HS20.out.size))
          clear hHeld HS20 FT_20 FA_20 FQ_20 FM_20
          clear QF20 RB20; generalize w19.drew = w21 at *
          clear hsx hsy tx ty
          go_wp2_with fail
          refine (alive7 _ FT_21.out).mono ?_
          rintro e w22 ⟨rfl, B⟩
          have HB22 := Lib.hid (HB21.out.trans (B.mono HB21.out.size))
          have FT_22 := Lib.hid (FT_21.out.below B (Nat.le_refl _))
          have FA_22 := Lib.hid (FA_21.out.below B (Nat.le_refl _))
          have FQ_22 := Lib.hid (FQ_21.out.below B (Nat.le_refl _))
          have FM_22 := Lib.hid (FM_21.out.below B (Nat.le_refl _))
          clear B  HB21 FT_21 FA_21 FQ_21 FM_21
          have HE := Lib.hid (HB1.out.trans ((C19.out.trans (HB22.out.mono C19.out.size)).mono HB1.out.size))
          go_wp2_with fail
          go_ret
          exact ⟨rfl, HE.out⟩
        cases g7
        · have FT_20 := Lib.hid (FT_1.out.below C19.out (Nat.le_refl _))
          have FA_20 := Lib.hid (FA_1.out.below C19.out (Nat.le_refl _))
          have FQ_20 := Lib.hid (FQ_1.out.below C19.out (Nat.le_refl _))
          have FM_20 := M19
          have HS20 := Lib.hid (Below.refl w19.heap.size w19)
          go_wp2_with fail
          have hsx := HSX.out; have hsy := HSY.out; have tx := HT6.out; have ty := HT7.out; simp only [if_true, Bool.false_eq_true, if_false] at tx ty
          have RB20 := Lib.hid (below_drew0 w19)
          have QF20 := Lib.hid (show ∀ w', Below w19.heap.size w19 w' → w'.cell? ⟨w.heap.size + 1 + 1, 6, none⟩ = some (.int .i64 X6) ∧ w'.cell? ⟨w.heap.size + 1 + 1, 7, none⟩ = some (.int .i64 X7) ∧ w'.cell? ⟨w.heap.size, 6, none⟩ = some (.int .i64 a0_6) ∧ w'.cell? ⟨w.heap.size, 7, none⟩ = some (.int .i64 a0_7) ∧ w'.cell? ⟨w.heap.size + 1, 0, none⟩ = some (.int .i64 a1) ∧ w'.cell? ⟨w.heap.size + 1, 1, none⟩ = some (.int .i64 b1) from fun w' hb => ⟨(FM_20.out.below hb (Nat.le_refl _)).cell 6 (v := .int .i64 X6) rfl, (FM_20.out.below hb (Nat.le_refl _)).cell 7 (v := .int .i64 X7) rfl, (FA_20.out.below hb (Nat.le_refl _)).cell 6 (v := .int .i64 a0_6) rfl, (FA_20.out.below hb (Nat.le_refl _)).cell 7 (v := .int .i64 a0_7) rfl, (FQ_20.out.below hb (Nat.le_refl _)).cell 0 (v := .int .i64 a1) rfl, (FQ_20.out.below hb (Nat.le_refl _)).cell 1 (v := .int .i64 b1) rfl⟩)
          refine wp_region_held_drew (S := fun w' => w'.cell? ⟨w.heap.size + 1 + 1, 6, none⟩ = some (.int .i64 X6) ∧ w'.cell? ⟨w.heap.size + 1 + 1, 7, none⟩ = some (.int .i64 X7) ∧ w'.cell? ⟨w.heap.size, 6, none⟩ = some (.int .i64 a0_6) ∧ w'.cell? ⟨w.heap.size, 7, none⟩ = some (.int .i64 a0_7) ∧ w'.cell? ⟨w.heap.size + 1, 0, none⟩ = some (.int .i64 a1) ∧ w'.cell? ⟨w.heap.size + 1, 1, none⟩ = some (.int .i64 b1)) (by kernel_rfl) (QF20.out _ RB20.out) (fun hHeld => ?_)
          refine wpAnyH_take (i := 0) (v := ?_) (by simp only [List.getElem?_toArray, List.getElem?_cons_succ, List.getElem?_cons_zero]; rfl) (by kernel_rfl) (by kernel_rfl) (by kernel_rfl) (by intro _ _ _ h; exact h) (Or.inl ⟨by rfl, ?_⟩) hHeld ?_
          rotate_left 1
          · intro w hSw; (try dsimp only at hSw); go_simp; try with_reducible rfl
          try simp only [Act.put, List.setIfInBounds_toArray, List.set_cons_zero, List.set_cons_succ]
          refine wpAnyH_take (i := 1) (v := ?_) (by simp only [List.getElem?_toArray, List.getElem?_cons_succ, List.getElem?_cons_zero]; rfl) (by kernel_rfl) (by kernel_rfl) (by kernel_rfl) (by intro _ _ _ h; exact h) (Or.inl ⟨by rfl, ?_⟩) hHeld ?_
          rotate_left 1
          · intro w hSw; (try dsimp only at hSw); go_simp; try with_reducible rfl
          try simp only [Act.put, List.setIfInBounds_toArray, List.set_cons_zero, List.set_cons_succ]
          refine wpAnyH_take (i := 2) (v := ?_) (by simp only [List.getElem?_toArray, List.getElem?_cons_succ, List.getElem?_cons_zero]; rfl) (by kernel_rfl) (by kernel_rfl) (by kernel_rfl) (by intro _ _ _ h; exact h) (Or.inl ⟨by rfl, ?_⟩) hHeld ?_
          rotate_left 1
          · intro w hSw; (try dsimp only at hSw); go_simp; try with_reducible rfl
          try simp only [Act.put, List.setIfInBounds_toArray, List.set_cons_zero, List.set_cons_succ]
          refine wpAnyH_take (i := 3) (v := ?_) (by simp only [List.getElem?_toArray, List.getElem?_cons_succ, List.getElem?_cons_zero]; rfl) (by kernel_rfl) (by kernel_rfl) (by kernel_rfl) (by intro _ _ _ h; exact h) (Or.inl ⟨by rfl, ?_⟩) hHeld ?_
          rotate_left 1
          · intro w hSw; (try dsimp only at hSw); go_simp; try with_reducible rfl
          try simp only [Act.put, List.setIfInBounds_toArray, List.set_cons_zero, List.set_cons_succ]
          refine wpAnyH_take (i := 4) (v := ?_) (by simp only [List.getElem?_toArray, List.getElem?_cons_succ, List.getElem?_cons_zero]; rfl) (by kernel_rfl) (by kernel_rfl) (by kernel_rfl) (by intro _ _ _ h; exact h) (Or.inl ⟨by rfl, ?_⟩) hHeld ?_
          rotate_left 1
          · intro w hSw; (try dsimp only at hSw); go_simp; try with_reducible rfl
          try simp only [Act.put, List.setIfInBounds_toArray, List.set_cons_zero, List.set_cons_succ]
          refine wpAnyH_take (i := 5) (v := ?_) (by simp only [List.getElem?_toArray, List.getElem?_cons_succ, List.getElem?_cons_zero]; rfl) (by kernel_rfl) (by kernel_rfl) (by kernel_rfl) (by intro _ _ _ h; exact h) (Or.inl ⟨by rfl, ?_⟩) hHeld ?_
          rotate_left 1
          · intro w hSw; (try dsimp only at hSw); go_simp; try with_reducible rfl
          try simp only [Act.put, List.setIfInBounds_toArray, List.set_cons_zero, List.set_cons_succ]
          refine wpAnyH_take (i := 6) (v := ?_) (by simp only [List.getElem?_toArray, List.getElem?_cons_succ, List.getElem?_cons_zero]; rfl) (by kernel_rfl) (by kernel_rfl) (by kernel_rfl) (by intro _ _ _ h; exact h) (Or.inl ⟨by rfl, ?_⟩) hHeld ?_
          rotate_left 1
          · intro w hSw; (try dsimp only at hSw); go_simp; try with_reducible rfl
          try simp only [Act.put, List.setIfInBounds_toArray, List.set_cons_zero, List.set_cons_succ]
          refine wpAnyH_take (i := 7) (v := ?_) (by simp only [List.getElem?_toArray, List.getElem?_cons_succ, List.getElem?_cons_zero]; rfl) (by kernel_rfl) (by kernel_rfl) (by kernel_rfl) (by intro _ _ _ h; exact h) (Or.inl ⟨by rfl, ?_⟩) hHeld ?_
          rotate_left 1
          · intro w hSw; (try dsimp only at hSw); go_simp; try with_reducible rfl
          try simp only [Act.put, List.setIfInBounds_toArray, List.set_cons_zero, List.set_cons_succ]
          refine wpAnyH_take (i := 8) (v := ?_) (by simp only [List.getElem?_toArray, List.getElem?_cons_succ, List.getElem?_cons_zero]; rfl) (by kernel_rfl) (by kernel_rfl) (by kernel_rfl) (by intro _ _ _ h; exact h) (Or.inl ⟨by rfl, ?_⟩) hHeld ?_
          rotate_left 1
          · intro w hSw; (try dsimp only at hSw); go_simp; try with_reducible rfl
          try simp only [Act.put, List.setIfInBounds_toArray, List.set_cons_zero, List.set_cons_succ]
          refine wpAnyH_take (i := 9) (v := ?_) (by simp only [List.getElem?_toArray, List.getElem?_cons_succ, List.getElem?_cons_zero]; rfl) (by kernel_rfl) (by kernel_rfl) (by kernel_rfl) (by intro _ _ _ h; exact h) (Or.inl ⟨by rfl, ?_⟩) hHeld ?_
          rotate_left 1
          · intro w hSw; (try dsimp only at hSw); go_simp; try with_reducible rfl
          try simp only [Act.put, List.setIfInBounds_toArray, List.set_cons_zero, List.set_cons_succ]
          refine wpAnyH_take (i := 10) (v := ?_) (by simp only [List.getElem?_toArray, List.getElem?_cons_succ, List.getElem?_cons_zero]; rfl) (by kernel_rfl) (by kernel_rfl) (by kernel_rfl) (by intro _ _ _ h; exact h) (Or.inl ⟨by rfl, ?_⟩) hHeld ?_
          rotate_left 1
          · intro w hSw; (try dsimp only at hSw); go_simp; try with_reducible rfl
          try simp only [Act.put, List.setIfInBounds_toArray, List.set_cons_zero, List.set_cons_succ]
          refine wpAnyH_take (i := 11) (v := ?_) (by simp only [List.getElem?_toArray, List.getElem?_cons_succ, List.getElem?_cons_zero]; rfl) (by kernel_rfl) (by kernel_rfl) (by kernel_rfl) (by intro _ _ _ h; exact h) (Or.inl ⟨by rfl, ?_⟩) hHeld ?_
          rotate_left 1
          · intro w hSw; (try dsimp only at hSw); go_simp; try with_reducible rfl
          try simp only [Act.put, List.setIfInBounds_toArray, List.set_cons_zero, List.set_cons_succ]
          refine wpAnyH_take (i := 12) (v := ?_) (by simp only [List.getElem?_toArray, List.getElem?_cons_succ, List.getElem?_cons_zero]; rfl) (by kernel_rfl) (by kernel_rfl) (by kernel_rfl) (by intro _ _ _ h; exact h) (Or.inl ⟨by rfl, ?_⟩) hHeld ?_
          rotate_left 1
          · intro w hSw; (try dsimp only at hSw); go_simp; try with_reducible rfl
          try simp only [Act.put, List.setIfInBounds_toArray, List.set_cons_zero, List.set_cons_succ]
          refine wpAnyH_take (i := 13) (v := ?_) (by simp only [List.getElem?_toArray, List.getElem?_cons_succ, List.getElem?_cons_zero]; rfl) (by kernel_rfl) (by kernel_rfl) (by kernel_rfl) (by intro _ _ _ h; exact h) (Or.inl ⟨by rfl, ?_⟩) hHeld ?_
          rotate_left 1
          · intro w hSw; (try dsimp only at hSw); go_simp; try with_reducible rfl
          try simp only [Act.put, List.setIfInBounds_toArray, List.set_cons_zero, List.set_cons_succ]
          refine wpAnyH_take (i := 14) (v := ?_) (by simp only [List.getElem?_toArray, List.getElem?_cons_succ, List.getElem?_cons_zero]; rfl) (by kernel_rfl) (by kernel_rfl) (by kernel_rfl) (by intro _ _ _ h; exact h) (Or.inl ⟨by rfl, ?_⟩) hHeld ?_
          rotate_left 1
          · intro w hSw; (try dsimp only at hSw); go_simp; try with_reducible rfl
          try simp only [Act.put, List.setIfInBounds_toArray, List.set_cons_zero, List.set_cons_succ]
          refine wpAnyH_take (i := 15) (v := ?_) (by simp only [List.getElem?_toArray, List.getElem?_cons_succ, List.getElem?_cons_zero]; rfl) (by kernel_rfl) (by kernel_rfl) (by kernel_rfl) (by intro _ _ _ h; exact h) (Or.inl ⟨by rfl, ?_⟩) hHeld ?_
          rotate_left 1
          · intro w hSw; (try dsimp only at hSw); go_simp; try with_reducible rfl
          try simp only [Act.put, List.setIfInBounds_toArray, List.set_cons_zero, List.set_cons_succ]
          refine wpAnyH_take (i := 16) (v := ?_) (by simp only [List.getElem?_toArray, List.getElem?_cons_succ, List.getElem?_cons_zero]; rfl) (by kernel_rfl) (by kernel_rfl) (by kernel_rfl) (by intro _ _ _ h; exact h) (Or.inl ⟨by rfl, ?_⟩) hHeld ?_
          rotate_left 1
          · intro w hSw; (try dsimp only at hSw); go_simp; try with_reducible rfl
          try simp only [Act.put, List.setIfInBounds_toArray, List.set_cons_zero, List.set_cons_succ]
          refine wpAnyH_take (i := 17) (v := ?_) (by simp only [List.getElem?_toArray, List.getElem?_cons_succ, List.getElem?_cons_zero]; rfl) (by kernel_rfl) (by kernel_rfl) (by kernel_rfl) (by intro _ _ _ h; exact h) (Or.inl ⟨by rfl, ?_⟩) hHeld ?_
          rotate_left 1
          · intro w hSw; (try dsimp only at hSw); go_simp; try with_reducible rfl
          try simp only [Act.put, List.setIfInBounds_toArray, List.set_cons_zero, List.set_cons_succ]
          refine wpAnyH_take (i := 18) (v := ?_) (by simp only [List.getElem?_toArray, List.getElem?_cons_succ, List.getElem?_cons_zero]; rfl) (by kernel_rfl) (by kernel_rfl) (by kernel_rfl) (by intro _ _ _ h; exact h) (Or.inl ⟨by rfl, ?_⟩) hHeld ?_
          rotate_left 1
          · intro w hSw; (try dsimp only at hSw); go_simp; try with_reducible rfl
          try simp only [Act.put, List.setIfInBounds_toArray, List.set_cons_zero, List.set_cons_succ]
          refine wpAnyH_take (i := 19) (v := ?_) (by simp only [List.getElem?_toArray, List.getElem?_cons_succ, List.getElem?_cons_zero]; rfl) (by kernel_rfl) (by kernel_rfl) (by kernel_rfl) (by intro _ _ _ h; exact h) (Or.inl ⟨by rfl, ?_⟩) hHeld ?_
          rotate_left 1
          · intro w hSw; (try dsimp only at hSw); go_simp; try with_reducible rfl
          try simp only [Act.put, List.setIfInBounds_toArray, List.set_cons_zero, List.set_cons_succ]
          refine wpAnyH_take (i := 20) (v := ?_) (by simp only [List.getElem?_toArray, List.getElem?_cons_succ, List.getElem?_cons_zero]; rfl) (by kernel_rfl) (by kernel_rfl) (by kernel_rfl) (by intro _ _ _ h; exact h) (Or.inl ⟨by rfl, ?_⟩) hHeld ?_
          rotate_left 1
          · intro w hSw; (try dsimp only at hSw); go_simp; try with_reducible rfl
          try simp only [Act.put, List.setIfInBounds_toArray, List.set_cons_zero, List.set_cons_succ]
          refine wpAnyH_take (i := 21) (v := ?_) (by simp only [List.getElem?_toArray, List.getElem?_cons_succ, List.getElem?_cons_zero]; rfl) (by kernel_rfl) (by kernel_rfl) (by kernel_rfl) (by intro _ _ _ h; exact h) (Or.inl ⟨by rfl, ?_⟩) hHeld ?_
          rotate_left 1
          · intro w hSw; (try dsimp only at hSw); go_simp; try with_reducible rfl
          try simp only [Act.put, List.setIfInBounds_toArray, List.set_cons_zero, List.set_cons_succ]
          refine wpAnyH_take (i := 22) (v := ?_) (by simp only [List.getElem?_toArray, List.getElem?_cons_succ, List.getElem?_cons_zero]; rfl) (by kernel_rfl) (by kernel_rfl) (by kernel_rfl) (by intro _ _ _ h; exact h) (Or.inl ⟨by rfl, ?_⟩) hHeld ?_
          rotate_left 1
          · intro w hSw; (try dsimp only at hSw); go_simp; try with_reducible rfl
          try simp only [Act.put, List.setIfInBounds_toArray, List.set_cons_zero, List.set_cons_succ]
          refine wpAnyH_take (i := 23) (v := ?_) (by simp only [List.getElem?_toArray, List.getElem?_cons_succ, List.getElem?_cons_zero]; rfl) (by kernel_rfl) (by kernel_rfl) (by kernel_rfl) (by intro _ _ _ h; exact h) (Or.inl ⟨by rfl, ?_⟩) hHeld ?_
          rotate_left 1
          · intro w hSw; (try dsimp only at hSw); go_simp; try with_reducible rfl
          try simp only [Act.put, List.setIfInBounds_toArray, List.set_cons_zero, List.set_cons_succ]
          refine wpAnyH_take (i := 24) (v := ?_) (by simp only [List.getElem?_toArray, List.getElem?_cons_succ, List.getElem?_cons_zero]; rfl) (by kernel_rfl) (by kernel_rfl) (by kernel_rfl) (by intro _ _ _ h; exact h) (Or.inl ⟨by rfl, ?_⟩) hHeld ?_
          rotate_left 1
          · intro w hSw; (try dsimp only at hSw); go_simp; try with_reducible rfl
          try simp only [Act.put, List.setIfInBounds_toArray, List.set_cons_zero, List.set_cons_succ]
          refine wpAnyH_take (i := 25) (v := ?_) (by simp only [List.getElem?_toArray, List.getElem?_cons_succ, List.getElem?_cons_zero]; rfl) (by kernel_rfl) (by kernel_rfl) (by kernel_rfl) (by intro _ _ _ h; exact h) (Or.inl ⟨by rfl, ?_⟩) hHeld ?_
          rotate_left 1
          · intro w hSw; (try dsimp only at hSw); go_simp; try with_reducible rfl
          try simp only [Act.put, List.setIfInBounds_toArray, List.set_cons_zero, List.set_cons_succ]
          refine wpAnyH_take (i := 26) (v := ?_) (by simp only [List.getElem?_toArray, List.getElem?_cons_succ, List.getElem?_cons_zero]; rfl) (by kernel_rfl) (by kernel_rfl) (by kernel_rfl) (by intro _ _ _ h; exact h) (Or.inl ⟨by rfl, ?_⟩) hHeld ?_
          rotate_left 1
          · intro w hSw; (try dsimp only at hSw); go_simp; try with_reducible rfl
          try simp only [Act.put, List.setIfInBounds_toArray, List.set_cons_zero, List.set_cons_succ]
          refine wpAnyH_take (i := 27) (v := ?_) (by simp only [List.getElem?_toArray, List.getElem?_cons_succ, List.getElem?_cons_zero]; rfl) (by kernel_rfl) (by kernel_rfl) (by kernel_rfl) (by intro _ _ _ h; exact h) (Or.inl ⟨by rfl, ?_⟩) hHeld ?_
          rotate_left 1
          · intro w hSw; (try dsimp only at hSw); go_simp; try with_reducible rfl
          try simp only [Act.put, List.setIfInBounds_toArray, List.set_cons_zero, List.set_cons_succ]
          refine wpAnyH_done (by kernel_rfl) ?_ _
          have FT_21 := Lib.hid (FT_20.out.below RB20.out (Nat.le_refl _))
          have FA_21 := Lib.hid (FA_20.out.below RB20.out (Nat.le_refl _))
          have FQ_21 := Lib.hid (FQ_20.out.below RB20.out (Nat.le_refl _))
          have FM_21 := Lib.hid (FM_20.out.below RB20.out (Nat.le_refl _))
          have HB21 := Lib.hid (HS20.out.trans (RB20.out.mono HS20.out.size))
          clear hHeld HS20 FT_20 FA_20 FQ_20 FM_20
          clear QF20 RB20; generalize w19.drew = w21 at *
          clear hsx hsy tx ty
          go_wp2_with fail
          refine (alive7 _ FT_21.out).mono ?_
          rintro e w22 ⟨rfl, B⟩
          have HB22 := Lib.hid (HB21.out.trans (B.mono HB21.out.size))
          have FT_22 := Lib.hid (FT_21.out.below B (Nat.le_refl _))
          have FA_22 := Lib.hid (FA_21.out.below B (Nat.le_refl _))
          have FQ_22 := Lib.hid (FQ_21.out.below B (Nat.le_refl _))
          have FM_22 := Lib.hid (FM_21.out.below B (Nat.le_refl _))
          clear B  HB21 FT_21 FA_21 FQ_21 FM_21
          have HE := Lib.hid (HB1.out.trans ((C19.out.trans (HB22.out.mono C19.out.size)).mono HB1.out.size))
          go_wp2_with fail
          go_ret
          exact ⟨rfl, HE.out⟩
        · have FT_20 := Lib.hid (FT_1.out.below C19.out (Nat.le_refl _))
          have FA_20 := Lib.hid (FA_1.out.below C19.out (Nat.le_refl _))
          have FQ_20 := Lib.hid (FQ_1.out.below C19.out (Nat.le_refl _))
          have FM_20 := M19
          have HS20 := Lib.hid (Below.refl w19.heap.size w19)
          go_wp2_with fail
          have hsx := HSX.out; have hsy := HSY.out; have tx := HT6.out; have ty := HT7.out; simp only [if_true, Bool.false_eq_true, if_false] at tx ty
          have RB20 := Lib.hid (below_drew0 w19)
          have QF20 := Lib.hid (show ∀ w', Below w19.heap.size w19 w' → w'.cell? ⟨w.heap.size + 1 + 1, 6, none⟩ = some (.int .i64 X6) ∧ w'.cell? ⟨w.heap.size + 1 + 1, 7, none⟩ = some (.int .i64 X7) ∧ w'.cell? ⟨w.heap.size, 6, none⟩ = some (.int .i64 a0_6) ∧ w'.cell? ⟨w.heap.size, 7, none⟩ = some (.int .i64 a0_7) ∧ w'.cell? ⟨w.heap.size + 1, 0, none⟩ = some (.int .i64 a1) ∧ w'.cell? ⟨w.heap.size + 1, 1, none⟩ = some (.int .i64 b1) from fun w' hb => ⟨(FM_20.out.below hb (Nat.le_refl _)).cell 6 (v := .int .i64 X6) rfl, (FM_20.out.below hb (Nat.le_refl _)).cell 7 (v := .int .i64 X7) rfl, (FA_20.out.below hb (Nat.le_refl _)).cell 6 (v := .int .i64 a0_6) rfl, (FA_20.out.below hb (Nat.le_refl _)).cell 7 (v := .int .i64 a0_7) rfl, (FQ_20.out.below hb (Nat.le_refl _)).cell 0 (v := .int .i64 a1) rfl, (FQ_20.out.below hb (Nat.le_refl _)).cell 1 (v := .int .i64 b1) rfl⟩)
          refine wp_region_held_drew (S := fun w' => w'.cell? ⟨w.heap.size + 1 + 1, 6, none⟩ = some (.int .i64 X6) ∧ w'.cell? ⟨w.heap.size + 1 + 1, 7, none⟩ = some (.int .i64 X7) ∧ w'.cell? ⟨w.heap.size, 6, none⟩ = some (.int .i64 a0_6) ∧ w'.cell? ⟨w.heap.size, 7, none⟩ = some (.int .i64 a0_7) ∧ w'.cell? ⟨w.heap.size + 1, 0, none⟩ = some (.int .i64 a1) ∧ w'.cell? ⟨w.heap.size + 1, 1, none⟩ = some (.int .i64 b1)) (by kernel_rfl) (QF20.out _ RB20.out) (fun hHeld => ?_)
          refine wpAnyH_take (i := 0) (v := ?_) (by simp only [List.getElem?_toArray, List.getElem?_cons_succ, List.getElem?_cons_zero]; rfl) (by kernel_rfl) (by kernel_rfl) (by kernel_rfl) (by intro _ _ _ h; exact h) (Or.inl ⟨by rfl, ?_⟩) hHeld ?_
          rotate_left 1
          · intro w hSw; (try dsimp only at hSw); go_simp; try with_reducible rfl
          try simp only [Act.put, List.setIfInBounds_toArray, List.set_cons_zero, List.set_cons_succ]
          refine wpAnyH_take (i := 1) (v := ?_) (by simp only [List.getElem?_toArray, List.getElem?_cons_succ, List.getElem?_cons_zero]; rfl) (by kernel_rfl) (by kernel_rfl) (by kernel_rfl) (by intro _ _ _ h; exact h) (Or.inl ⟨by rfl, ?_⟩) hHeld ?_
          rotate_left 1
          · intro w hSw; (try dsimp only at hSw); go_simp; try with_reducible rfl
          try simp only [Act.put, List.setIfInBounds_toArray, List.set_cons_zero, List.set_cons_succ]
          refine wpAnyH_take (i := 2) (v := ?_) (by simp only [List.getElem?_toArray, List.getElem?_cons_succ, List.getElem?_cons_zero]; rfl) (by kernel_rfl) (by kernel_rfl) (by kernel_rfl) (by intro _ _ _ h; exact h) (Or.inl ⟨by rfl, ?_⟩) hHeld ?_
          rotate_left 1
          · intro w hSw; (try dsimp only at hSw); go_simp; try with_reducible rfl
          try simp only [Act.put, List.setIfInBounds_toArray, List.set_cons_zero, List.set_cons_succ]
          refine wpAnyH_take (i := 3) (v := ?_) (by simp only [List.getElem?_toArray, List.getElem?_cons_succ, List.getElem?_cons_zero]; rfl) (by kernel_rfl) (by kernel_rfl) (by kernel_rfl) (by intro _ _ _ h; exact h) (Or.inl ⟨by rfl, ?_⟩) hHeld ?_
          rotate_left 1
          · intro w hSw; (try dsimp only at hSw); go_simp; try with_reducible rfl
          try simp only [Act.put, List.setIfInBounds_toArray, List.set_cons_zero, List.set_cons_succ]
          refine wpAnyH_take (i := 4) (v := ?_) (by simp only [List.getElem?_toArray, List.getElem?_cons_succ, List.getElem?_cons_zero]; rfl) (by kernel_rfl) (by kernel_rfl) (by kernel_rfl) (by intro _ _ _ h; exact h) (Or.inl ⟨by rfl, ?_⟩) hHeld ?_
          rotate_left 1
          · intro w hSw; (try dsimp only at hSw); go_simp; try with_reducible rfl
          try simp only [Act.put, List.setIfInBounds_toArray, List.set_cons_zero, List.set_cons_succ]
          refine wpAnyH_take (i := 5) (v := ?_) (by simp only [List.getElem?_toArray, List.getElem?_cons_succ, List.getElem?_cons_zero]; rfl) (by kernel_rfl) (by kernel_rfl) (by kernel_rfl) (by intro _ _ _ h; exact h) (Or.inl ⟨by rfl, ?_⟩) hHeld ?_
          rotate_left 1
          · intro w hSw; (try dsimp only at hSw); go_simp; try with_reducible rfl
          try simp only [Act.put, List.setIfInBounds_toArray, List.set_cons_zero, List.set_cons_succ]
          refine wpAnyH_take (i := 6) (v := ?_) (by simp only [List.getElem?_toArray, List.getElem?_cons_succ, List.getElem?_cons_zero]; rfl) (by kernel_rfl) (by kernel_rfl) (by kernel_rfl) (by intro _ _ _ h; exact h) (Or.inl ⟨by rfl, ?_⟩) hHeld ?_
          rotate_left 1
          · intro w hSw; (try dsimp only at hSw); go_simp; try with_reducible rfl
          try simp only [Act.put, List.setIfInBounds_toArray, List.set_cons_zero, List.set_cons_succ]
          refine wpAnyH_take (i := 7) (v := ?_) (by simp only [List.getElem?_toArray, List.getElem?_cons_succ, List.getElem?_cons_zero]; rfl) (by kernel_rfl) (by kernel_rfl) (by kernel_rfl) (by intro _ _ _ h; exact h) (Or.inl ⟨by rfl, ?_⟩) hHeld ?_
          rotate_left 1
          · intro w hSw; (try dsimp only at hSw); go_simp; try with_reducible rfl
          try simp only [Act.put, List.setIfInBounds_toArray, List.set_cons_zero, List.set_cons_succ]
          refine wpAnyH_take (i := 8) (v := ?_) (by simp only [List.getElem?_toArray, List.getElem?_cons_succ, List.getElem?_cons_zero]; rfl) (by kernel_rfl) (by kernel_rfl) (by kernel_rfl) (by intro _ _ _ h; exact h) (Or.inl ⟨by rfl, ?_⟩) hHeld ?_
          rotate_left 1
          · intro w hSw; (try dsimp only at hSw); go_simp; try with_reducible rfl
          try simp only [Act.put, List.setIfInBounds_toArray, List.set_cons_zero, List.set_cons_succ]
          refine wpAnyH_take (i := 9) (v := ?_) (by simp only [List.getElem?_toArray, List.getElem?_cons_succ, List.getElem?_cons_zero]; rfl) (by kernel_rfl) (by kernel_rfl) (by kernel_rfl) (by intro _ _ _ h; exact h) (Or.inl ⟨by rfl, ?_⟩) hHeld ?_
          rotate_left 1
          · intro w hSw; (try dsimp only at hSw); go_simp; try with_reducible rfl
          try simp only [Act.put, List.setIfInBounds_toArray, List.set_cons_zero, List.set_cons_succ]
          refine wpAnyH_take (i := 10) (v := ?_) (by simp only [List.getElem?_toArray, List.getElem?_cons_succ, List.getElem?_cons_zero]; rfl) (by kernel_rfl) (by kernel_rfl) (by kernel_rfl) (by intro _ _ _ h; exact h) (Or.inl ⟨by rfl, ?_⟩) hHeld ?_
          rotate_left 1
          · intro w hSw; (try dsimp only at hSw); go_simp; try with_reducible rfl
          try simp only [Act.put, List.setIfInBounds_toArray, List.set_cons_zero, List.set_cons_succ]
          refine wpAnyH_take (i := 11) (v := ?_) (by simp only [List.getElem?_toArray, List.getElem?_cons_succ, List.getElem?_cons_zero]; rfl) (by kernel_rfl) (by kernel_rfl) (by kernel_rfl) (by intro _ _ _ h; exact h) (Or.inl ⟨by rfl, ?_⟩) hHeld ?_
          rotate_left 1
          · intro w hSw; (try dsimp only at hSw); go_simp; try with_reducible rfl
          try simp only [Act.put, List.setIfInBounds_toArray, List.set_cons_zero, List.set_cons_succ]
          refine wpAnyH_take (i := 12) (v := ?_) (by simp only [List.getElem?_toArray, List.getElem?_cons_succ, List.getElem?_cons_zero]; rfl) (by kernel_rfl) (by kernel_rfl) (by kernel_rfl) (by intro _ _ _ h; exact h) (Or.inl ⟨by rfl, ?_⟩) hHeld ?_
          rotate_left 1
          · intro w hSw; (try dsimp only at hSw); go_simp; try with_reducible rfl
          try simp only [Act.put, List.setIfInBounds_toArray, List.set_cons_zero, List.set_cons_succ]
          refine wpAnyH_take (i := 13) (v := ?_) (by simp only [List.getElem?_toArray, List.getElem?_cons_succ, List.getElem?_cons_zero]; rfl) (by kernel_rfl) (by kernel_rfl) (by kernel_rfl) (by intro _ _ _ h; exact h) (Or.inl ⟨by rfl, ?_⟩) hHeld ?_
          rotate_left 1
          · intro w hSw; (try dsimp only at hSw); go_simp; try with_reducible rfl
          try simp only [Act.put, List.setIfInBounds_toArray, List.set_cons_zero, List.set_cons_succ]
          refine wpAnyH_take (i := 14) (v := ?_) (by simp only [List.getElem?_toArray, List.getElem?_cons_succ, List.getElem?_cons_zero]; rfl) (by kernel_rfl) (by kernel_rfl) (by kernel_rfl) (by intro _ _ _ h; exact h) (Or.inl ⟨by rfl, ?_⟩) hHeld ?_
          rotate_left 1
          · intro w hSw; (try dsimp only at hSw); go_simp; try with_reducible rfl
          try simp only [Act.put, List.setIfInBounds_toArray, List.set_cons_zero, List.set_cons_succ]
          refine wpAnyH_take (i := 15) (v := ?_) (by simp only [List.getElem?_toArray, List.getElem?_cons_succ, List.getElem?_cons_zero]; rfl) (by kernel_rfl) (by kernel_rfl) (by kernel_rfl) (by intro _ _ _ h; exact h) (Or.inl ⟨by rfl, ?_⟩) hHeld ?_
          rotate_left 1
          · intro w hSw; (try dsimp only at hSw); go_simp; try with_reducible rfl
          try simp only [Act.put, List.setIfInBounds_toArray, List.set_cons_zero, List.set_cons_succ]
          refine wpAnyH_take (i := 16) (v := ?_) (by simp only [List.getElem?_toArray, List.getElem?_cons_succ, List.getElem?_cons_zero]; rfl) (by kernel_rfl) (by kernel_rfl) (by kernel_rfl) (by intro _ _ _ h; exact h) (Or.inl ⟨by rfl, ?_⟩) hHeld ?_
          rotate_left 1
          · intro w hSw; (try dsimp only at hSw); go_simp; try with_reducible rfl
          try simp only [Act.put, List.setIfInBounds_toArray, List.set_cons_zero, List.set_cons_succ]
          refine wpAnyH_take (i := 17) (v := ?_) (by simp only [List.getElem?_toArray, List.getElem?_cons_succ, List.getElem?_cons_zero]; rfl) (by kernel_rfl) (by kernel_rfl) (by kernel_rfl) (by intro _ _ _ h; exact h) (Or.inl ⟨by rfl, ?_⟩) hHeld ?_
          rotate_left 1
          · intro w hSw; (try dsimp only at hSw); go_simp; try with_reducible rfl
          try simp only [Act.put, List.setIfInBounds_toArray, List.set_cons_zero, List.set_cons_succ]
          refine wpAnyH_take (i := 18) (v := ?_) (by simp only [List.getElem?_toArray, List.getElem?_cons_succ, List.getElem?_cons_zero]; rfl) (by kernel_rfl) (by kernel_rfl) (by kernel_rfl) (by intro _ _ _ h; exact h) (Or.inl ⟨by rfl, ?_⟩) hHeld ?_
          rotate_left 1
          · intro w hSw; (try dsimp only at hSw); go_simp; try with_reducible rfl
          try simp only [Act.put, List.setIfInBounds_toArray, List.set_cons_zero, List.set_cons_succ]
          refine wpAnyH_take (i := 19) (v := ?_) (by simp only [List.getElem?_toArray, List.getElem?_cons_succ, List.getElem?_cons_zero]; rfl) (by kernel_rfl) (by kernel_rfl) (by kernel_rfl) (by intro _ _ _ h; exact h) (Or.inl ⟨by rfl, ?_⟩) hHeld ?_
          rotate_left 1
          · intro w hSw; (try dsimp only at hSw); go_simp; try with_reducible rfl
          try simp only [Act.put, List.setIfInBounds_toArray, List.set_cons_zero, List.set_cons_succ]
          refine wpAnyH_take (i := 20) (v := ?_) (by simp only [List.getElem?_toArray, List.getElem?_cons_succ, List.getElem?_cons_zero]; rfl) (by kernel_rfl) (by kernel_rfl) (by kernel_rfl) (by intro _ _ _ h; exact h) (Or.inl ⟨by rfl, ?_⟩) hHeld ?_
          rotate_left 1
          · intro w hSw; (try dsimp only at hSw); go_simp; try with_reducible rfl
          try simp only [Act.put, List.setIfInBounds_toArray, List.set_cons_zero, List.set_cons_succ]
          refine wpAnyH_take (i := 21) (v := ?_) (by simp only [List.getElem?_toArray, List.getElem?_cons_succ, List.getElem?_cons_zero]; rfl) (by kernel_rfl) (by kernel_rfl) (by kernel_rfl) (by intro _ _ _ h; exact h) (Or.inl ⟨by rfl, ?_⟩) hHeld ?_
          rotate_left 1
          · intro w hSw; (try dsimp only at hSw); go_simp; try with_reducible rfl
          try simp only [Act.put, List.setIfInBounds_toArray, List.set_cons_zero, List.set_cons_succ]
          refine wpAnyH_take (i := 22) (v := ?_) (by simp only [List.getElem?_toArray, List.getElem?_cons_succ, List.getElem?_cons_zero]; rfl) (by kernel_rfl) (by kernel_rfl) (by kernel_rfl) (by intro _ _ _ h; exact h) (Or.inl ⟨by rfl, ?_⟩) hHeld ?_
          rotate_left 1
          · intro w hSw; (try dsimp only at hSw); go_simp; try with_reducible rfl
          try simp only [Act.put, List.setIfInBounds_toArray, List.set_cons_zero, List.set_cons_succ]
          refine wpAnyH_take (i := 23) (v := ?_) (by simp only [List.getElem?_toArray, List.getElem?_cons_succ, List.getElem?_cons_zero]; rfl) (by kernel_rfl) (by kernel_rfl) (by kernel_rfl) (by intro _ _ _ h; exact h) (Or.inl ⟨by rfl, ?_⟩) hHeld ?_
          rotate_left 1
          · intro w hSw; (try dsimp only at hSw); go_simp; try with_reducible rfl
          try simp only [Act.put, List.setIfInBounds_toArray, List.set_cons_zero, List.set_cons_succ]
          refine wpAnyH_take (i := 24) (v := ?_) (by simp only [List.getElem?_toArray, List.getElem?_cons_succ, List.getElem?_cons_zero]; rfl) (by kernel_rfl) (by kernel_rfl) (by kernel_rfl) (by intro _ _ _ h; exact h) (Or.inl ⟨by rfl, ?_⟩) hHeld ?_
          rotate_left 1
          · intro w hSw; (try dsimp only at hSw); go_simp; try with_reducible rfl
          try simp only [Act.put, List.setIfInBounds_toArray, List.set_cons_zero, List.set_cons_succ]
          refine wpAnyH_take (i := 25) (v := ?_) (by simp only [List.getElem?_toArray, List.getElem?_cons_succ, List.getElem?_cons_zero]; rfl) (by kernel_rfl) (by kernel_rfl) (by kernel_rfl) (by intro _ _ _ h; exact h) (Or.inl ⟨by rfl, ?_⟩) hHeld ?_
          rotate_left 1
          · intro w hSw; (try dsimp only at hSw); go_simp; try with_reducible rfl
          try simp only [Act.put, List.setIfInBounds_toArray, List.set_cons_zero, List.set_cons_succ]
          refine wpAnyH_take (i := 26) (v := ?_) (by simp only [List.getElem?_toArray, List.getElem?_cons_succ, List.getElem?_cons_zero]; rfl) (by kernel_rfl) (by kernel_rfl) (by kernel_rfl) (by intro _ _ _ h; exact h) (Or.inl ⟨by rfl, ?_⟩) hHeld ?_
          rotate_left 1
          · intro w hSw; (try dsimp only at hSw); go_simp; try with_reducible rfl
          try simp only [Act.put, List.setIfInBounds_toArray, List.set_cons_zero, List.set_cons_succ]
          refine wpAnyH_take (i := 27) (v := ?_) (by simp only [List.getElem?_toArray, List.getElem?_cons_succ, List.getElem?_cons_zero]; rfl) (by kernel_rfl) (by kernel_rfl) (by kernel_rfl) (by intro _ _ _ h; exact h) (Or.inl ⟨by rfl, ?_⟩) hHeld ?_
          rotate_left 1
          · intro w hSw; (try dsimp only at hSw); go_simp; try with_reducible rfl
          try simp only [Act.put, List.setIfInBounds_toArray, List.set_cons_zero, List.set_cons_succ]
          refine wpAnyH_done (by kernel_rfl) ?_ _
          have FT_21 := Lib.hid (FT_20.out.below RB20.out (Nat.le_refl _))
          have FA_21 := Lib.hid (FA_20.out.below RB20.out (Nat.le_refl _))
          have FQ_21 := Lib.hid (FQ_20.out.below RB20.out (Nat.le_refl _))
          have FM_21 := Lib.hid (FM_20.out.below RB20.out (Nat.le_refl _))
          have HB21 := Lib.hid (HS20.out.trans (RB20.out.mono HS20.out.size))
          clear hHeld HS20 FT_20 FA_20 FQ_20 FM_20
          clear QF20 RB20; generalize w19.drew = w21 at *
          clear hsx hsy tx ty
          have C22 := Lib.hid (C19.out.trans (HB21.out.mono C19.out.size))
          have M22 := Lib.hid (M19.out.below HB21.out (Nat.le_refl _))
          clear C19 M19 HB21 FT_21 FA_21 FQ_21 FM_21
          go_wp2_with fail
          rw [rounds_succ]
          have FT_23 := Lib.hid (FT_1.out.below C22.out (Nat.le_refl _))
          have FA_23 := Lib.hid (FA_1.out.below C22.out (Nat.le_refl _))
          have FQ_23 := Lib.hid (FQ_1.out.below C22.out (Nat.le_refl _))
          have HB23 := Lib.hid (HB1.out.trans (C22.out.mono HB1.out.size))
          have FM_23 := M22
          clear HB1 FT_1 FA_1 FQ_1 C22 M22
          have j0 := (HU0.out (by simp)).1; have k0 := (HU0.out (by simp)).2
          have j1 := (HU1.out (by simp)).1; have k1 := (HU1.out (by simp)).2
          have j2 := (HU2.out (by simp)).1; have k2 := (HU2.out (by simp)).2
          have j3 := (HU3.out (by simp)).1; have k3 := (HU3.out (by simp)).2
          have j4 := (HU4.out (by simp)).1; have k4 := (HU4.out (by simp)).2
          have j5 := (HU5.out (by simp)).1; have k5 := (HU5.out (by simp)).2
          have j6 := (HU6.out (by simp)).1; have k6 := (HU6.out (by simp)).2
          have j7 := (HU7.out (by simp)).1; have k7 := (HU7.out (by simp)).2
          have qq := (show P4 X0 X1 X2 X3 X4 X5 X6 X7 from ⟨(by rw [k0]; exact j0), (by rw [k1]; exact j1), (by rw [k2]; exact j2), (by rw [k3]; exact j3), (by rw [k4]; exact j4), (by rw [k5]; exact j5), (by rw [k6]; exact j6), (by rw [k7]; exact j7)⟩)
          have es := Lib.hid (show circ X0 X1 X2 X3 X4 X5 X6 X7 = circ a0_0 a0_1 a0_2 a0_3 a0_4 a0_5 a0_6 a0_7 from by rw [k0, k1, k2, k3, k4, k5, k6, k7]; exact circ_shift _ _ _ _ _ _ _ _ _ _)
          clear j0 k0 j1 k1 j2 k2 j3 k3 j4 k4 j5 k5 j6 k6 j7 k7
          go_wp2_with fail
          have RB23 := Lib.hid (below_drew0 w21)
          have QS23 := Lib.hid (show w21.cell? ⟨w.heap.size, 0, none⟩ = some (.int .i64 a0_0) ∧ w21.cell? ⟨w.heap.size, 1, none⟩ = some (.int .i64 a0_1) ∧ w21.cell? ⟨w.heap.size, 2, none⟩ = some (.int .i64 a0_2) ∧ w21.cell? ⟨w.heap.size, 3, none⟩ = some (.int .i64 a0_3) ∧ w21.cell? ⟨w.heap.size, 4, none⟩ = some (.int .i64 a0_4) ∧ w21.cell? ⟨w.heap.size, 5, none⟩ = some (.int .i64 a0_5) ∧ w21.cell? ⟨w.heap.size, 6, none⟩ = some (.int .i64 a0_6) ∧ w21.cell? ⟨w.heap.size, 7, none⟩ = some (.int .i64 a0_7) ∧ w21.cell? ⟨w.heap.size + 1 + 1, 0, none⟩ = some (.int .i64 X0) ∧ w21.cell? ⟨w.heap.size + 1 + 1, 1, none⟩ = some (.int .i64 X1) ∧ w21.cell? ⟨w.heap.size + 1 + 1, 2, none⟩ = some (.int .i64 X2) ∧ w21.cell? ⟨w.heap.size + 1 + 1, 3, none⟩ = some (.int .i64 X3) ∧ w21.cell? ⟨w.heap.size + 1 + 1, 4, none⟩ = some (.int .i64 X4) ∧ w21.cell? ⟨w.heap.size + 1 + 1, 5, none⟩ = some (.int .i64 X5) ∧ w21.cell? ⟨w.heap.size + 1 + 1, 6, none⟩ = some (.int .i64 X6) ∧ w21.cell? ⟨w.heap.size + 1 + 1, 7, none⟩ = some (.int .i64 X7) from ⟨FA_23.out.cell 0 (v := .int .i64 a0_0) rfl, FA_23.out.cell 1 (v := .int .i64 a0_1) rfl, FA_23.out.cell 2 (v := .int .i64 a0_2) rfl, FA_23.out.cell 3 (v := .int .i64 a0_3) rfl, FA_23.out.cell 4 (v := .int .i64 a0_4) rfl, FA_23.out.cell 5 (v := .int .i64 a0_5) rfl, FA_23.out.cell 6 (v := .int .i64 a0_6) rfl, FA_23.out.cell 7 (v := .int .i64 a0_7) rfl, FM_23.out.cell 0 (v := .int .i64 X0) rfl, FM_23.out.cell 1 (v := .int .i64 X1) rfl, FM_23.out.cell 2 (v := .int .i64 X2) rfl, FM_23.out.cell 3 (v := .int .i64 X3) rfl, FM_23.out.cell 4 (v := .int .i64 X4) rfl, FM_23.out.cell 5 (v := .int .i64 X5) rfl, FM_23.out.cell 6 (v := .int .i64 X6) rfl, FM_23.out.cell 7 (v := .int .i64 X7) rfl⟩)
          have QF23 := Lib.hid (show ∀ w', Below w21.heap.size w21 w' → w'.cell? ⟨w.heap.size, 0, none⟩ = some (.int .i64 a0_0) ∧ w'.cell? ⟨w.heap.size, 1, none⟩ = some (.int .i64 a0_1) ∧ w'.cell? ⟨w.heap.size, 2, none⟩ = some (.int .i64 a0_2) ∧ w'.cell? ⟨w.heap.size, 3, none⟩ = some (.int .i64 a0_3) ∧ w'.cell? ⟨w.heap.size, 4, none⟩ = some (.int .i64 a0_4) ∧ w'.cell? ⟨w.heap.size, 5, none⟩ = some (.int .i64 a0_5) ∧ w'.cell? ⟨w.heap.size, 6, none⟩ = some (.int .i64 a0_6) ∧ w'.cell? ⟨w.heap.size, 7, none⟩ = some (.int .i64 a0_7) ∧ w'.cell? ⟨w.heap.size + 1 + 1, 0, none⟩ = some (.int .i64 X0) ∧ w'.cell? ⟨w.heap.size + 1 + 1, 1, none⟩ = some (.int .i64 X1) ∧ w'.cell? ⟨w.heap.size + 1 + 1, 2, none⟩ = some (.int .i64 X2) ∧ w'.cell? ⟨w.heap.size + 1 + 1, 3, none⟩ = some (.int .i64 X3) ∧ w'.cell? ⟨w.heap.size + 1 + 1, 4, none⟩ = some (.int .i64 X4) ∧ w'.cell? ⟨w.heap.size + 1 + 1, 5, none⟩ = some (.int .i64 X5) ∧ w'.cell? ⟨w.heap.size + 1 + 1, 6, none⟩ = some (.int .i64 X6) ∧ w'.cell? ⟨w.heap.size + 1 + 1, 7, none⟩ = some (.int .i64 X7) from fun w' hb => ⟨(FA_23.out.below hb (Nat.le_refl _)).cell 0 (v := .int .i64 a0_0) rfl, (FA_23.out.below hb (Nat.le_refl _)).cell 1 (v := .int .i64 a0_1) rfl, (FA_23.out.below hb (Nat.le_refl _)).cell 2 (v := .int .i64 a0_2) rfl, (FA_23.out.below hb (Nat.le_refl _)).cell 3 (v := .int .i64 a0_3) rfl, (FA_23.out.below hb (Nat.le_refl _)).cell 4 (v := .int .i64 a0_4) rfl, (FA_23.out.below hb (Nat.le_refl _)).cell 5 (v := .int .i64 a0_5) rfl, (FA_23.out.below hb (Nat.le_refl _)).cell 6 (v := .int .i64 a0_6) rfl, (FA_23.out.below hb (Nat.le_refl _)).cell 7 (v := .int .i64 a0_7) rfl, (FM_23.out.below hb (Nat.le_refl _)).cell 0 (v := .int .i64 X0) rfl, (FM_23.out.below hb (Nat.le_refl _)).cell 1 (v := .int .i64 X1) rfl, (FM_23.out.below hb (Nat.le_refl _)).cell 2 (v := .int .i64 X2) rfl, (FM_23.out.below hb (Nat.le_refl _)).cell 3 (v := .int .i64 X3) rfl, (FM_23.out.below hb (Nat.le_refl _)).cell 4 (v := .int .i64 X4) rfl, (FM_23.out.below hb (Nat.le_refl _)).cell 5 (v := .int .i64 X5) rfl, (FM_23.out.below hb (Nat.le_refl _)).cell 6 (v := .int .i64 X6) rfl, (FM_23.out.below hb (Nat.le_refl _)).cell 7 (v := .int .i64 X7) rfl⟩)
          go_region_held3 (fun w' => w'.cell? ⟨w.heap.size, 0, none⟩ = some (.int .i64 a0_0) ∧ w'.cell? ⟨w.heap.size, 1, none⟩ = some (.int .i64 a0_1) ∧ w'.cell? ⟨w.heap.size, 2, none⟩ = some (.int .i64 a0_2) ∧ w'.cell? ⟨w.heap.size, 3, none⟩ = some (.int .i64 a0_3) ∧ w'.cell? ⟨w.heap.size, 4, none⟩ = some (.int .i64 a0_4) ∧ w'.cell? ⟨w.heap.size, 5, none⟩ = some (.int .i64 a0_5) ∧ w'.cell? ⟨w.heap.size, 6, none⟩ = some (.int .i64 a0_6) ∧ w'.cell? ⟨w.heap.size, 7, none⟩ = some (.int .i64 a0_7) ∧ w'.cell? ⟨w.heap.size + 1 + 1, 0, none⟩ = some (.int .i64 X0) ∧ w'.cell? ⟨w.heap.size + 1 + 1, 1, none⟩ = some (.int .i64 X1) ∧ w'.cell? ⟨w.heap.size + 1 + 1, 2, none⟩ = some (.int .i64 X2) ∧ w'.cell? ⟨w.heap.size + 1 + 1, 3, none⟩ = some (.int .i64 X3) ∧ w'.cell? ⟨w.heap.size + 1 + 1, 4, none⟩ = some (.int .i64 X4) ∧ w'.cell? ⟨w.heap.size + 1 + 1, 5, none⟩ = some (.int .i64 X5) ∧ w'.cell? ⟨w.heap.size + 1 + 1, 6, none⟩ = some (.int .i64 X6) ∧ w'.cell? ⟨w.heap.size + 1 + 1, 7, none⟩ = some (.int .i64 X7)) (first | with_reducible exact QF23.out _ RB27.out | with_reducible exact QF23.out _ RB26.out | with_reducible exact QF23.out _ RB25.out | with_reducible exact QF23.out _ RB24.out | with_reducible exact QS23.out | with_reducible exact QF23.out _ RB23.out) (first
                      | (go_at_call 17; have := RB26; clear this; refine (ref3_Same _ _ _ _ _ _ _ _ RV_26.out RW_26.out (fun _ _ => by rw [es.out])).mono ?_; rintro e w27 ⟨rfl, B⟩; have RB27 := Lib.hid (RB26.out.trans (B.mono RB26.out.size)); have RV_27 := Lib.hid (RV_26.out.below B (Nat.le_refl _)); have RW_27 := Lib.hid (RW_26.out.below B (Nat.le_refl _)); clear B )
                      | (go_at_call 31; have := RB25; clear this; refine (circle_Value X0 X1 X2 X3 X4 X5 X6 X7 qq _).mono ?_; rintro e w26 ⟨⟨U2, u2, rfl, S2⟩, B⟩; have RB26 := Lib.hid (RB25.out.trans (B.mono RB25.out.size)); have RV_26 := Lib.hid (RV_25.out.below B (Nat.le_refl _)); have RW_26 := Lib.hid S2; clear B S2)
                      | (go_at_call 31; have := RB24; clear this; refine (circle_Value a0_0 a0_1 a0_2 a0_3 a0_4 a0_5 a0_6 a0_7 (show P4 a0_0 a0_1 a0_2 a0_3 a0_4 a0_5 a0_6 a0_7 from ⟨i0_0, i0_1, i0_2, i0_3, i0_4, i0_5, i0_6, i0_7⟩) _).mono ?_; rintro e w25 ⟨⟨U1, u1, rfl, S1⟩, B⟩; have RB25 := Lib.hid (RB24.out.trans (B.mono RB24.out.size)); have RV_25 := Lib.hid S1; clear B S1)
                      | (go_at_call 30; have := RB23; clear this; refine (alive7 _ (FT_23.out.below RB23.out (Nat.le_refl _))).mono ?_; rintro e w24 ⟨rfl, B⟩; have RB24 := Lib.hid (RB23.out.trans (B.mono RB23.out.size)); clear B ))
          have FT_27 := Lib.hid (FT_23.out.below RB27.out (Nat.le_refl _))
          have FA_27 := Lib.hid (FA_23.out.below RB27.out (Nat.le_refl _))
          have FQ_27 := Lib.hid (FQ_23.out.below RB27.out (Nat.le_refl _))
          have FM_27 := Lib.hid (FM_23.out.below RB27.out (Nat.le_refl _))
          have HB27 := Lib.hid (HB23.out.trans (RB27.out.mono HB23.out.size))
          clear HB23 FT_23 FA_23 FQ_23 FM_23
          go_wp2_with fail
          go_ret
          exact ⟨rfl, HB27.out⟩

theorem gTab0 : Tryd.prog.globalNamed "geofence/mask.words" = some 1 := by kernel_rfl
theorem gTabType0 : (Tryd.prog.globals[1]?).map (·.type) = some 69 := by kernel_rfl
theorem cellsT0 : Tryd.prog.cellsOf 69 = 2 := by kernel_rfl
theorem cellsE0 : Tryd.prog.cellsOf 36 = 1 := by kernel_rfl
theorem tableIs0 {W : World} (h : laidMetH Tryd.prog Rows.circleTranslatesRow.laid W) : Lib.TabIs Tryd.prog W "geofence/mask.words" .u64 [9223372036854775808, 18446744073709551615] :=
  Lib.tabIs_of_head (rest := _) gTab0 gTabType0 Tryd.underlying69 Tryd.underlying36 cellsE0 cellsT0 h
theorem table0 {W : World} (h : laidMetH Tryd.prog Rows.circleTranslatesRow.laid W) : TabM W := ⟨(tableIs0 h).cell gTab0 0 (by decide), (tableIs0 h).cell gTab0 1 (by decide)⟩

set_option maxRecDepth 100000 in
theorem contract (H : Type) (enc : TypeId × Value → H) (W : World) (base : Nat) (args : Array Value) (ds gs : List (DataW H)) (before : List MemPlace)
    (hval : ∀ (j : Nat) t v, Tryd.f12.params[j]? = some t → args[j]? = some v → Value.okWide Tryd.prog W .any base t v)
    (hW : DataW.Whole enc Tryd.prog Tryd.f12.params.toList Rows.circleTranslatesSpec.vars false W args.toList ds gs before) (hL : laidMetH Tryd.prog Rows.circleTranslatesRow.laid W) :
    Calls Tryd.prog 12 args W fun e W' => ∃ v, e = .returned v ∧ Rows.circleTranslatesSpec.post enc Tryd.prog Tryd.f12 false true false false W args v W' := by
  have hW' := hW
  obtain ⟨p, q, hA0, hV, rfl, hfz, hnd⟩ := hW
  have hA : DataW.TrodAll enc Tryd.prog W 0 (fun _ => true) true Tryd.f12.params.toList args.toList ds p := hA0
  rw [Tryd.params12] at hA hval
  obtain ⟨v0, vs0, d0, ds0, p0, q0, hargs, rfl, rfl, h0, r0⟩ := trodAll_cons hA
  obtain ⟨v1, vs1, d1, ds1, p1, q1, rfl, rfl, rfl, h1, r1⟩ := trodAll_cons r0
  obtain ⟨rfl, rfl, rfl⟩ := trodAll_nil r1
  obtain rfl : args = #[v0, v1] := by cases args; simp_all
  obtain ⟨rfl, rfl⟩ := trodVars_none hV
  have k0 := h0
  have lt0 : ∀ x ∈ p0, x.block < W.heap.size := by obtain ⟨m, hm⟩ := k0; exact DataW.trod_lt m _ _ _ hm
  have k1 := h1
  have lt1 : ∀ x ∈ p1, x.block < W.heap.size := by obtain ⟨m, hm⟩ := k1; exact DataW.trod_lt m _ _ _ hm
  obtain ⟨a0_0, a0_1, a0_2, a0_3, a0_4, a0_5, a0_6, a0_7, rfl, w0_0, w0_1, w0_2, w0_3, w0_4, w0_5, w0_6, w0_7⟩ := Op.open_pts4 Tryd.underlying48 Tryd.underlying23 rfl rfl rfl rfl Tryd.underlying2 (by kernel_rfl) (by kernel_rfl) (by kernel_rfl) h0
  obtain ⟨a1, b1, rfl, w1, x1⟩ := Op.open_pt Tryd.underlying23 rfl rfl rfl rfl Tryd.underlying2 (by kernel_rfl) (by kernel_rfl) h1
  clear hA0
  refine (walk a0_0 a0_1 a0_2 a0_3 a0_4 a0_5 a0_6 a0_7 w0_0 w0_1 w0_2 w0_3 w0_4 w0_5 w0_6 w0_7 a1 b1 w1 x1 (table0 hL)).mono fun e W' ⟨he, bel⟩ => ?_
  subst he
  exact ⟨_, rfl, _, _, _, [], _, [], hW', trodAll_mk1 (shut_bool Tryd.underlying4 _), (trodAll_cons_mk (Below.trod laidOut (by kernel_rfl) (of_decide_eq_true (by kernel_rfl)) k0 bel lt0) (trodAll_cons_mk (Below.trod laidOut (by kernel_rfl) (of_decide_eq_true (by kernel_rfl)) k1 bel lt1) trodAll_mk0)), rfl, bel.frame _, fun h => by cases h⟩

noncomputable def laidHeap (os : Os) : Array Obj :=
  (World.holding Tryd.prog os ⟨#[], #[], []⟩).heap.modify 1 (fun
      | .cells _ t frozen => .cells #[.int .u64 9223372036854775808, .int .u64 18446744073709551615] t frozen
      | o => o)
noncomputable def laidWorld (os : Os) : World :=
  { World.holding Tryd.prog os ⟨#[], #[], []⟩ with heap := laidHeap os }
theorem laid_met (os : Os) : laidMet Tryd.prog Rows.circleTranslatesRow.laid ((laidWorld os).forCall (fun _ _ => 0) ⟨#[], #[.agg #[.int .i64 0, .int .i64 0, .int .i64 0, .int .i64 0, .int .i64 0, .int .i64 0, .int .i64 0, .int .i64 0], .agg #[.int .i64 0, .int .i64 0]], []⟩).memory :=
  laidMet_of_run' 8 (by kernel_rfl) (by kernel_rfl)
theorem reads (os : Os) {H : Type} (enc : TypeId × Value → H) : ∃ places, DataW.whole enc Tryd.prog ((laidWorld os).forCall (fun _ _ => 0) ⟨#[], #[.agg #[.int .i64 0, .int .i64 0, .int .i64 0, .int .i64 0, .int .i64 0, .int .i64 0, .int .i64 0, .int .i64 0], .agg #[.int .i64 0, .int .i64 0]], []⟩).memory Tryd.f12.params.toList Rows.circleTranslatesSpec.vars false (#[.agg #[.int .i64 0, .int .i64 0, .int .i64 0, .int .i64 0, .int .i64 0, .int .i64 0, .int .i64 0, .int .i64 0], .agg #[.int .i64 0, .int .i64 0]] : Array Value).toList 8 = some ([.agg [.agg [.lit (.int .i64 0), .lit (.int .i64 0)], .agg [.lit (.int .i64 0), .lit (.int .i64 0)], .agg [.lit (.int .i64 0), .lit (.int .i64 0)], .agg [.lit (.int .i64 0), .lit (.int .i64 0)]], .agg [.lit (.int .i64 0), .lit (.int .i64 0)]], [], places) :=
  ⟨[], by kernel_rfl⟩

set_option maxRecDepth 100000 in
theorem lifted (os : Os) (started : os.Started) (H : Type) (enc : TypeId × Value → H) (F : Stop.Interp) :
    ReturnsInHanded {} Tryd.checked os 12 .any ((OpenSpec.ofChange Rows.circleTranslatesSpec).preRow enc Tryd.prog Tryd.f12 Rows.circleTranslatesRow.domain false Rows.circleTranslatesRow.laid) (((OpenSpec.ofChange Rows.circleTranslatesSpec).at F).post enc Tryd.prog Tryd.f12 false true false false) := by
  obtain ⟨places, hx⟩ := reads os enc
  refine returnsInHanded_of_row (C := Tryd.checked) (s := OpenSpec.ofChange Rows.circleTranslatesSpec) own started (by kernel_rfl) Tryd.func12
    (witness_row_at (enc := enc) (C := Tryd.checked) false (laidWorld os) #[.agg #[.int .i64 0, .int .i64 0, .int .i64 0, .int .i64 0, .int .i64 0, .int .i64 0, .int .i64 0, .int .i64 0], .agg #[.int .i64 0, .int .i64 0]] rfl (by kernel_rfl) (by kernel_rfl) (by kernel_rfl)
      (OpenSpec.preRow_of_cond 8 hx (by kernel_rfl) (fun k hk => by cases hk) (by kernel_rfl) (laid_met os))) ?_
  intro W base args ds gs before hval hW _ _ _ hL _ _
  exact contract H enc W base args ds gs before hval hW hL

theorem said : Rows.CircleTranslatesSaid :=
  OpenClaim.holds_of_cond 12 Tryd.f12 rfl rfl rfl rfl rfl rfl rfl ⟨rfl, rfl, rfl, rfl, rfl⟩ rfl rfl rfl rfl rfl (by kernel_rfl) Tryd.func12 (by kernel_rfl)
    (of_decide_eq_true (by kernel_rfl)) (by unfold Func.isWrapper; first | (rw [if_pos (by decide +kernel)]; kernel_rfl) | (rw [if_neg (by decide +kernel)]; exact ⟨rfl, rfl⟩))
    (fun os started H enc _ F => by rw [OpenClaim.pre_eq_preRow]; exact lifted os started H enc F)

theorem plain (f : FuncId) (fn : Func) (hf : Tryd.pinned.checked.prog.funcNamed "geofence/geofencelaw07.CircleTranslates" = some f) (hfn : Tryd.pinned.checked.prog.funcs[f]? = some fn) :
    false = Tryd.pinned.checked.prog.looks [] ∧ ∀ (j : Nat) t, fn.params[j]? = some t → Tryd.pinned.checked.prog.wantsStandIn t = false := by
  obtain rfl : f = 12 := Option.some.inj ((show Tryd.prog.funcNamed "geofence/geofencelaw07.CircleTranslates" = some 12 by kernel_rfl).symm.trans hf) |>.symm
  obtain rfl : fn = Tryd.f12 := (Option.some.inj (Tryd.func12.symm.trans hfn)).symm
  refine ⟨by kernel_rfl, fun j t ht => ?_⟩
  rw [Tryd.params12] at ht
  have hm := Array.mem_of_getElem? ht
  simp at hm
  rcases hm with rfl | rfl
  · exact (show Tryd.prog.wantsStandIn 48 = false by kernel_rfl)
  · exact (show Tryd.prog.wantsStandIn 23 = false by kernel_rfl)

/-- THE CARD -/
theorem card : Rows.CircleTranslatesCardSaid :=
  Claim7.holds_tied_plain_at .later [] _ _ _ _ said (fun _ h => by cases h) (by kernel_rfl) (fun _ h => by cases h) circleTranslates_row_tie rfl ⟨rfl, rfl⟩ (by kernel_rfl) rfl plain (by kernel_rfl)
#print axioms card
end Go.Proofs.YtfjanlfbnliokaaDoor.circleTranslates
