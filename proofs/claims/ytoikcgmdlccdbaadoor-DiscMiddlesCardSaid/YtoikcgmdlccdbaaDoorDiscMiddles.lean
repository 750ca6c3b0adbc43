/- DiscMiddles: for every input the law returns true, and each argument reads afterwards as it read before; the package variable that the row lists holds what it lists. -/
import Derived.Test.YtoikcgmdlccdbaaDoorCards
import Derived.Test.YtoikcgmdlccdbaaDoorTie
import Derived.Test.YtoikcgmdlccdbaaDoorLaw15
import Derived.Test.YtoikcgmdlccdbaaDoorRef15
import Derived.Test.YtoikcgmdlccdbaaDoorRegM
import Derived.Test.YtoikcgmdlccdbaaDoorPts
import Derived.Test.YtoikcgmdlccdbaaDoorMain
import Derived.Test.YtoikcgmdlccdbaaDoorOpenPt
import Derived.WalkKit
import Derived.ProofKit
import Derived.OpenShut
import Derived.Below
import Derived.Deep.DeepHandedRow
import Derived.Lib.LaidTab
namespace Go.Proofs.YtoikcgmdlccdbaaDoor.discMiddles
open Go.ChangeShapes Go.WideShapes Go.ChangeAt Go.RowKit Wd
set_option linter.unusedVariables false
set_option linter.unusedSimpArgs false

theorem own : ownKnob Tryd.prog.godebug = none := by kernel_rfl
theorem laidOut : laidOutB Tryd.prog = true := by kernel_rfl

theorem andNot1 {x : Int} (hx : IsI x) : bits .andNot .i64 x 1 = 2 * (x / 2) := by
  show IntKind.i64.wrap ((BitVec.ofInt 64 x &&& ~~~BitVec.ofInt 64 ((1 : Nat) : Int)).toNat : Int) = _
  rw [BitVec.toNat_and, BitVec.toNat_not, ofInt_u64 1 (by omega)]
  have e : 2 ^ 64 - 1 - 1 = 18446744073709551614 := by decide
  rw [e, nat_hi64_1, IntKind.wrap_i64]
  have hn : ((BitVec.ofInt 64 x).toNat : Int) = x % 18446744073709551616 := by rw [BitVec.toNat_ofInt]; omega
  unfold IsI at hx; omega
theorem half_ev (x : Int) : (2 * x).tdiv 2 = x := Int.mul_tdiv_cancel_left x (by decide)
theorem sg_pos' {x : Int} (h : 0 < x) : sg x = 1 := by unfold sg; exact Int.sign_eq_one_of_pos h
theorem mid_c (ax ay bx b_ cx cy : Int) : circ (2 * ax) (2 * ay) (2 * bx) (2 * b_) (2 * cx) (2 * cy) (ax + bx) (ay + b_) = det (2 * ax) (2 * ay) (2 * bx) (2 * b_) (2 * cx) (2 * cy) * ((ax - bx) * (ax - bx) + (ay - b_) * (ay - b_)) := by unfold circ nrm mnr det; grind
theorem mid_0 {ax ay bx b_ : Int} (cx cy : Int) (h : ax = bx) (h2 : ay = b_) : det (2 * ax) (2 * ay) (2 * bx) (2 * b_) (2 * cx) (2 * cy) = 0 := by subst h h2; unfold det; grind
theorem sq_nn (x : Int) : 0 ≤ x * x := by
  rcases Int.le_total 0 x with h | h
  · exact Int.mul_nonneg h h
  · exact Int.mul_nonneg_of_nonpos_of_nonpos h h
theorem mid_1 {ax ay bx b_ cx cy : Int} (h : det (2 * ax) (2 * ay) (2 * bx) (2 * b_) (2 * cx) (2 * cy) ≠ 0) : sg (circ (2 * ax) (2 * ay) (2 * bx) (2 * b_) (2 * cx) (2 * cy) (ax + bx) (ay + b_)) * sg (det (2 * ax) (2 * ay) (2 * bx) (2 * b_) (2 * cx) (2 * cy)) = 1 := by
  have hp : 0 < (ax - bx) * (ax - bx) + (ay - b_) * (ay - b_) := by
    have h1 := sq_nn (ax - bx); have h2 := sq_nn (ay - b_)
    rcases (by omega : 0 < (ax - bx) * (ax - bx) + (ay - b_) * (ay - b_) ∨ ((ax - bx) * (ax - bx) = 0 ∧ (ay - b_) * (ay - b_) = 0)) with h3 | ⟨h3, h4⟩
    · exact h3
    · exfalso
      have e1 : ax = bx := by rcases Int.mul_eq_zero.1 h3 with e | e <;> omega
      have e2 : ay = b_ := by rcases Int.mul_eq_zero.1 h4 with e | e <;> omega
      exact h (mid_0 cx cy e1 e2)
  rw [mid_c]
  unfold sg
  rw [Int.sign_mul, Int.sign_eq_one_of_pos hp, Int.mul_one]
  generalize det (2 * ax) (2 * ay) (2 * bx) (2 * b_) (2 * cx) (2 * cy) = d at *
  rcases (by omega : d < 0 ∨ 0 < d) with h | h
  · rw [Int.sign_eq_neg_one_of_neg h]; rfl
  · rw [Int.sign_eq_one_of_pos h]; rfl
theorem mid_2 {ax ay bx b_ cx cy : Int} (h : det (2 * ax) (2 * ay) (2 * bx) (2 * b_) (2 * cx) (2 * cy) ≠ 0) : sg (circ (2 * ax) (2 * ay) (2 * bx) (2 * b_) (2 * cx) (2 * cy) (bx + cx) (b_ + cy)) * sg (det (2 * ax) (2 * ay) (2 * bx) (2 * b_) (2 * cx) (2 * cy)) = 1 := by
  rw [side_rot (2 * bx) (2 * b_) (2 * cx) (2 * cy) (2 * ax) (2 * ay)]; exact mid_1 (by rw [← det_rot']; exact h)
theorem mid_3 {ax ay bx b_ cx cy : Int} (h : det (2 * ax) (2 * ay) (2 * bx) (2 * b_) (2 * cx) (2 * cy) ≠ 0) : sg (circ (2 * ax) (2 * ay) (2 * bx) (2 * b_) (2 * cx) (2 * cy) (cx + ax) (cy + ay)) * sg (det (2 * ax) (2 * ay) (2 * bx) (2 * b_) (2 * cx) (2 * cy)) = 1 := by
  rw [← side_rot (2 * ax) (2 * ay) (2 * bx) (2 * b_) (2 * cx) (2 * cy)]; exact mid_1 (by rw [det_rot']; exact h)
set_option maxRecDepth 20000 in
set_option maxHeartbeats 4000000 in
theorem walk {w : World} (a0_0 a0_1 a0_2 a0_3 a0_4 a0_5 : Int) (w0_0 : (Lit.int .i64 a0_0).wf = true) (w0_1 : (Lit.int .i64 a0_1).wf = true) (w0_2 : (Lit.int .i64 a0_2).wf = true) (w0_3 : (Lit.int .i64 a0_3).wf = true) (w0_4 : (Lit.int .i64 a0_4).wf = true) (w0_5 : (Lit.int .i64 a0_5).wf = true) (hT : TabM w) :
    Calls Tryd.prog 12 #[.agg #[.int .i64 a0_0, .int .i64 a0_1, .int .i64 a0_2, .int .i64 a0_3, .int .i64 a0_4, .int .i64 a0_5]] w fun e w' => e = .returned (.bool true) ∧ Below w.heap.size w w' := by
  have HB0 := Lib.hid (Below.refl w.heap.size w)
  have i0_0 := isI_of_wf w0_0
  have i0_1 := isI_of_wf w0_1
  have i0_2 := isI_of_wf w0_2
  have i0_3 := isI_of_wf w0_3
  have i0_4 := isI_of_wf w0_4
  have i0_5 := isI_of_wf w0_5
  have FT := Lib.hid hT; clear hT
  obtain ⟨p0, hp0⟩ : ∃ p, p = a0_0 / 2 := ⟨_, rfl⟩
  have k0 : bits .andNot .i64 a0_0 1 = 2 * p0 := by rw [hp0]; exact andNot1 i0_0
  have l0 : -4611686018427387904 ≤ p0 ∧ p0 ≤ 4611686018427387903 := by unfold IsI at i0_0; omega
  have t0 := half_ev p0; have j0 : IsI (2 * p0) := by unfold IsI; omega
  obtain ⟨p1, hp1⟩ : ∃ p, p = a0_1 / 2 := ⟨_, rfl⟩
  have k1 : bits .andNot .i64 a0_1 1 = 2 * p1 := by rw [hp1]; exact andNot1 i0_1
  have l1 : -4611686018427387904 ≤ p1 ∧ p1 ≤ 4611686018427387903 := by unfold IsI at i0_1; omega
  have t1 := half_ev p1; have j1 : IsI (2 * p1) := by unfold IsI; omega
  obtain ⟨p2, hp2⟩ : ∃ p, p = a0_2 / 2 := ⟨_, rfl⟩
  have k2 : bits .andNot .i64 a0_2 1 = 2 * p2 := by rw [hp2]; exact andNot1 i0_2
  have l2 : -4611686018427387904 ≤ p2 ∧ p2 ≤ 4611686018427387903 := by unfold IsI at i0_2; omega
  have t2 := half_ev p2; have j2 : IsI (2 * p2) := by unfold IsI; omega
  obtain ⟨p3, hp3⟩ : ∃ p, p = a0_3 / 2 := ⟨_, rfl⟩
  have k3 : bits .andNot .i64 a0_3 1 = 2 * p3 := by rw [hp3]; exact andNot1 i0_3
  have l3 : -4611686018427387904 ≤ p3 ∧ p3 ≤ 4611686018427387903 := by unfold IsI at i0_3; omega
  have t3 := half_ev p3; have j3 : IsI (2 * p3) := by unfold IsI; omega
  obtain ⟨p4, hp4⟩ : ∃ p, p = a0_4 / 2 := ⟨_, rfl⟩
  have k4 : bits .andNot .i64 a0_4 1 = 2 * p4 := by rw [hp4]; exact andNot1 i0_4
  have l4 : -4611686018427387904 ≤ p4 ∧ p4 ≤ 4611686018427387903 := by unfold IsI at i0_4; omega
  have t4 := half_ev p4; have j4 : IsI (2 * p4) := by unfold IsI; omega
  obtain ⟨p5, hp5⟩ : ∃ p, p = a0_5 / 2 := ⟨_, rfl⟩
  have k5 : bits .andNot .i64 a0_5 1 = 2 * p5 := by rw [hp5]; exact andNot1 i0_5
  have l5 : -4611686018427387904 ≤ p5 ∧ p5 ≤ 4611686018427387903 := by unfold IsI at i0_5; omega
  have t5 := half_ev p5; have j5 : IsI (2 * p5) := by unfold IsI; omega
  have hpp := (show P3 (2 * p0) (2 * p1) (2 * p2) (2 * p3) (2 * p4) (2 * p5) from ⟨j0, j1, j2, j3, j4, j5⟩)
  have v0 : wrap64 p0 = p0 := by rw [← IntWalk.i64_left, IntKind.wrap_i64]; omega
  have v1 : wrap64 p1 = p1 := by rw [← IntWalk.i64_left, IntKind.wrap_i64]; omega
  have v2 : wrap64 p2 = p2 := by rw [← IntWalk.i64_left, IntKind.wrap_i64]; omega
  have v3 : wrap64 p3 = p3 := by rw [← IntWalk.i64_left, IntKind.wrap_i64]; omega
  have v4 : wrap64 p4 = p4 := by rw [← IntWalk.i64_left, IntKind.wrap_i64]; omega
  have v5 : wrap64 p5 = p5 := by rw [← IntWalk.i64_left, IntKind.wrap_i64]; omega
  have sx0 : wrap64 (p0 + p2) = p0 + p2 := by rw [← IntWalk.i64_left, IntKind.wrap_i64]; omega
  have sy0 : wrap64 (p1 + p3) = p1 + p3 := by rw [← IntWalk.i64_left, IntKind.wrap_i64]; omega
  have hq0 := (show P4 (2 * p0) (2 * p1) (2 * p2) (2 * p3) (2 * p4) (2 * p5) (p0 + p2) (p1 + p3) from ⟨j0, j1, j2, j3, j4, j5, by unfold IsI; omega, by unfold IsI; omega⟩)
  have sx1 : wrap64 (p2 + p4) = p2 + p4 := by rw [← IntWalk.i64_left, IntKind.wrap_i64]; omega
  have sy1 : wrap64 (p3 + p5) = p3 + p5 := by rw [← IntWalk.i64_left, IntKind.wrap_i64]; omega
  have hq1 := (show P4 (2 * p0) (2 * p1) (2 * p2) (2 * p3) (2 * p4) (2 * p5) (p2 + p4) (p3 + p5) from ⟨j0, j1, j2, j3, j4, j5, by unfold IsI; omega, by unfold IsI; omega⟩)
  have sx2 : wrap64 (p4 + p0) = p4 + p0 := by rw [← IntWalk.i64_left, IntKind.wrap_i64]; omega
  have sy2 : wrap64 (p5 + p1) = p5 + p1 := by rw [← IntWalk.i64_left, IntKind.wrap_i64]; omega
  have hq2 := (show P4 (2 * p0) (2 * p1) (2 * p2) (2 * p3) (2 * p4) (2 * p5) (p4 + p0) (p5 + p1) from ⟨j0, j1, j2, j3, j4, j5, by unfold IsI; omega, by unfold IsI; omega⟩)
  clear hp0 j0 l0 hp1 j1 l1 hp2 j2 l2 hp3 j3 l3 hp4 j4 l4 hp5 j5 l5
  have K0 := Lib.hid k0; have T0 := Lib.hid t0; have V0 := Lib.hid v0; clear k0 t0 v0
  have K1 := Lib.hid k1; have T1 := Lib.hid t1; have V1 := Lib.hid v1; clear k1 t1 v1
  have K2 := Lib.hid k2; have T2 := Lib.hid t2; have V2 := Lib.hid v2; clear k2 t2 v2
  have K3 := Lib.hid k3; have T3 := Lib.hid t3; have V3 := Lib.hid v3; clear k3 t3 v3
  have K4 := Lib.hid k4; have T4 := Lib.hid t4; have V4 := Lib.hid v4; clear k4 t4 v4
  have K5 := Lib.hid k5; have T5 := Lib.hid t5; have V5 := Lib.hid v5; clear k5 t5 v5
  have SX0 := Lib.hid sx0; have SY0 := Lib.hid sy0; clear sx0 sy0
  have SX1 := Lib.hid sx1; have SY1 := Lib.hid sy1; clear sx1 sy1
  have SX2 := Lib.hid sx2; have SY2 := Lib.hid sy2; clear sx2 sy2
  go_enter Tryd.func12, Tryd.ntmps12
  go_wp2_with fail
  have C1 := Lib.hid (show Below w.heap.size w (w.alloc (.cells #[.int .i64 a0_0, .int .i64 a0_1, .int .i64 a0_2, .int .i64 a0_3, .int .i64 a0_4, .int .i64 a0_5] 41)) from below_al below_rf)
  have M1 := Lib.hid (show Bx (w.alloc (.cells #[.int .i64 a0_0, .int .i64 a0_1, .int .i64 a0_2, .int .i64 a0_3, .int .i64 a0_4, .int .i64 a0_5] 41)) (w.heap.size) #[.int .i64 a0_0, .int .i64 a0_1, .int .i64 a0_2, .int .i64 a0_3, .int .i64 a0_4, .int .i64 a0_5] 41 from Bx.new w #[.int .i64 a0_0, .int .i64 a0_1, .int .i64 a0_2, .int .i64 a0_3, .int .i64 a0_4, .int .i64 a0_5] 41)
  generalize (w.alloc (.cells #[.int .i64 a0_0, .int .i64 a0_1, .int .i64 a0_2, .int .i64 a0_3, .int .i64 a0_4, .int .i64 a0_5] 41)) = w1 at *
  refine wp_loop_rounds 4 ?_
  rw [rounds_succ]
  go_upto_region 4 with (fail)
  have MD := Lib.hid (show Bx w1.drew (w.heap.size) #[.int .i64 a0_0, .int .i64 a0_1, .int .i64 a0_2, .int .i64 a0_3, .int .i64 a0_4, .int .i64 a0_5] 41 from bx_dr M1.out)
  refine wp_region_held_drew (S := fun _ => True) (by kernel_rfl) trivial (fun _ => ?_)
  refine wpAnyH_genM w.heap.size (w.heap.size) 41 #[.int .i64 a0_0, .int .i64 a0_1, .int .i64 a0_2, .int .i64 a0_3, .int .i64 a0_4, .int .i64 a0_5] [⟨14, 0, [.int .i64 (2 * p0)]⟩, ⟨17, 1, [.int .i64 (2 * p1)]⟩] [⟨0, 11, .int .i64 0⟩, ⟨1, 12, .int .i64 0⟩, ⟨2, 13, .int .i64 0⟩, ⟨3, 14, .pointer (some ⟨w.heap.size, 0, none⟩)⟩, ⟨4, 15, .pointer (some ⟨w.heap.size, 0, none⟩)⟩, ⟨5, 16, .int .i64 a0_0⟩, ⟨6, 17, .int .i64 (2 * p0)⟩, ⟨7, 18, .int .i64 0⟩, ⟨8, 19, .pointer (some ⟨w.heap.size, 0, none⟩)⟩, ⟨9, 20, .pointer (some ⟨w.heap.size, 1, none⟩)⟩, ⟨10, 21, .int .i64 a0_1⟩, ⟨11, 22, .int .i64 (2 * p1)⟩, ⟨12, 23, .pointer (some ⟨w.heap.size, 0, none⟩)⟩, ⟨13, 24, .pointer (some ⟨w.heap.size, 0, none⟩)⟩, ⟨15, 25, .pointer (some ⟨w.heap.size, 0, none⟩)⟩, ⟨16, 26, .pointer (some ⟨w.heap.size, 1, none⟩)⟩] (by kernel_rfl) (fun _ => trivial) (Nat.le_refl _) MD.out ?_ ?_ ?_
  · refine ⟨?_, ?_, ?_, ?_, ?_, ?_, ?_, ?_, ?_, ?_, ?_, ?_, ?_, ?_, ?_, ?_, trivial⟩
    · intro a wz K hb ht hd hM hK
      have hbw := Lib.hid (C1.out.trans ((Below.refl w.heap.size w1).drew.trans hb)); clear hb
      have HK := Lib.hid hK; clear hK
      all_goals (
      have hx3 := (ht 3 rfl).trans rfl
      have es3 : a.tmps.getD 3 undef = _ := getD_of hx3; clear hx3
      clear ht hd
      clear hM
      refine wpOp_step (by simp only [List.getElem?_toArray, List.getElem?_cons_succ, List.getElem?_cons_zero]; rfl) (fun K' hK' => ?_)
      have HK' := Lib.hid hK'; clear hK'
      go_simp
      exact HK'.out _ _ HK.out)
    · intro a wz K hb ht hd hM hK
      have hbw := Lib.hid (C1.out.trans ((Below.refl w.heap.size w1).drew.trans hb)); clear hb
      have HK := Lib.hid hK; clear hK
      all_goals (
      have hx3 := (ht 3 rfl).trans rfl
      have es3 : a.tmps.getD 3 undef = _ := getD_of hx3; clear hx3
      clear ht hd
      clear hM
      refine wpOp_step (by simp only [List.getElem?_toArray, List.getElem?_cons_succ, List.getElem?_cons_zero]; rfl) (fun K' hK' => ?_)
      have HK' := Lib.hid hK'; clear hK'
      go_simp
      exact HK'.out _ _ HK.out)
    · intro a wz K hb ht hd hM hK
      have hbw := Lib.hid (C1.out.trans ((Below.refl w.heap.size w1).drew.trans hb)); clear hb
      have HK := Lib.hid hK; clear hK
      all_goals (
      have hx3 := (ht 3 rfl).trans rfl
      have es3 : a.tmps.getD 3 undef = _ := getD_of hx3; clear hx3
      clear ht hd
      clear hM
      refine wpOp_step (by simp only [List.getElem?_toArray, List.getElem?_cons_succ, List.getElem?_cons_zero]; rfl) (fun K' hK' => ?_)
      have HK' := Lib.hid hK'; clear hK'
      go_simp
      exact HK'.out _ _ HK.out)
    · intro a wz K hb ht hd hM hK
      have hbw := Lib.hid (C1.out.trans ((Below.refl w.heap.size w1).drew.trans hb)); clear hb
      have HK := Lib.hid hK; clear hK
      all_goals (
      have hx1 := (ht 1 rfl).trans rfl
      have es1 : a.tmps.getD 1 undef = _ := getD_of hx1; clear hx1
      have hx13 : a.tmps[13]? = some (.int .i64 0) := hd 2 _ rfl (by kernel_rfl)
      have es13 : a.tmps.getD 13 undef = _ := getD_of hx13; clear hx13
      clear ht hd
      clear hM
      refine wpOp_step (by simp only [List.getElem?_toArray, List.getElem?_cons_succ, List.getElem?_cons_zero]; rfl) (fun K' hK' => ?_)
      have HK' := Lib.hid hK'; clear hK'
      go_simp
      exact HK'.out _ _ HK.out)
    · intro a wz K hb ht hd hM hK
      have hbw := Lib.hid (C1.out.trans ((Below.refl w.heap.size w1).drew.trans hb)); clear hb
      have HK := Lib.hid hK; clear hK
      all_goals (
      have hx14 : a.tmps[14]? = some (.pointer (some ⟨w.heap.size, 0, none⟩)) := hd 3 _ rfl (by kernel_rfl)
      have es14 : a.tmps.getD 14 undef = _ := getD_of hx14; clear hx14
      clear ht hd
      clear hM
      refine wpOp_step (by simp only [List.getElem?_toArray, List.getElem?_cons_succ, List.getElem?_cons_zero]; rfl) (fun K' hK' => ?_)
      have HK' := Lib.hid hK'; clear hK'
      go_simp
      exact HK'.out _ _ HK.out)
    · intro a wz K hb ht hd hM hK
      have hbw := Lib.hid (C1.out.trans ((Below.refl w.heap.size w1).drew.trans hb)); clear hb
      have HK := Lib.hid hK; clear hK
      all_goals (
      have hx15 : a.tmps[15]? = some (.pointer (some ⟨w.heap.size, 0, none⟩)) := hd 4 _ rfl (by kernel_rfl)
      have es15 : a.tmps.getD 15 undef = _ := getD_of hx15; clear hx15
      clear ht hd
      have HM := Lib.hid (hM (fun s0 h => by cases h; kernel_rfl))
      clear hM
      have zc0 := HM.out.cell 0 (v := .int .i64 a0_0) rfl
      refine wpOp_step (by simp only [List.getElem?_toArray, List.getElem?_cons_succ, List.getElem?_cons_zero]; rfl) (fun K' hK' => ?_)
      have HK' := Lib.hid hK'; clear hK'
      go_simp
      exact HK'.out _ _ HK.out)
    · intro a wz K hb ht hd hM hK
      have hbw := Lib.hid (C1.out.trans ((Below.refl w.heap.size w1).drew.trans hb)); clear hb
      have HK := Lib.hid hK; clear hK
      all_goals (
      have hx16 : a.tmps[16]? = some (.int .i64 a0_0) := hd 5 _ rfl (by kernel_rfl)
      have es16 : a.tmps.getD 16 undef = _ := getD_of hx16; clear hx16
      clear ht hd
      clear hM
      have kk := K0.out
      refine wpOp_step (by simp only [List.getElem?_toArray, List.getElem?_cons_succ, List.getElem?_cons_zero]; rfl) (fun K' hK' => ?_)
      have HK' := Lib.hid hK'; clear hK'
      go_simp
      exact HK'.out _ _ HK.out)
    · intro a wz K hb ht hd hM hK
      have hbw := Lib.hid (C1.out.trans ((Below.refl w.heap.size w1).drew.trans hb)); clear hb
      have HK := Lib.hid hK; clear hK
      all_goals (
      have hx3 := (ht 3 rfl).trans rfl
      have es3 : a.tmps.getD 3 undef = _ := getD_of hx3; clear hx3
      clear ht hd
      clear hM
      refine wpOp_step (by simp only [List.getElem?_toArray, List.getElem?_cons_succ, List.getElem?_cons_zero]; rfl) (fun K' hK' => ?_)
      have HK' := Lib.hid hK'; clear hK'
      go_simp
      exact HK'.out _ _ HK.out)
    · intro a wz K hb ht hd hM hK
      have hbw := Lib.hid (C1.out.trans ((Below.refl w.heap.size w1).drew.trans hb)); clear hb
      have HK := Lib.hid hK; clear hK
      all_goals (
      have hx1 := (ht 1 rfl).trans rfl
      have es1 : a.tmps.getD 1 undef = _ := getD_of hx1; clear hx1
      have hx18 : a.tmps[18]? = some (.int .i64 0) := hd 7 _ rfl (by kernel_rfl)
      have es18 : a.tmps.getD 18 undef = _ := getD_of hx18; clear hx18
      clear ht hd
      clear hM
      refine wpOp_step (by simp only [List.getElem?_toArray, List.getElem?_cons_succ, List.getElem?_cons_zero]; rfl) (fun K' hK' => ?_)
      have HK' := Lib.hid hK'; clear hK'
      go_simp
      exact HK'.out _ _ HK.out)
    · intro a wz K hb ht hd hM hK
      have hbw := Lib.hid (C1.out.trans ((Below.refl w.heap.size w1).drew.trans hb)); clear hb
      have HK := Lib.hid hK; clear hK
      all_goals (
      have hx19 : a.tmps[19]? = some (.pointer (some ⟨w.heap.size, 0, none⟩)) := hd 8 _ rfl (by kernel_rfl)
      have es19 : a.tmps.getD 19 undef = _ := getD_of hx19; clear hx19
      clear ht hd
      clear hM
      refine wpOp_step (by simp only [List.getElem?_toArray, List.getElem?_cons_succ, List.getElem?_cons_zero]; rfl) (fun K' hK' => ?_)
      have HK' := Lib.hid hK'; clear hK'
      go_simp
      exact HK'.out _ _ HK.out)
    · intro a wz K hb ht hd hM hK
      have hbw := Lib.hid (C1.out.trans ((Below.refl w.heap.size w1).drew.trans hb)); clear hb
      have HK := Lib.hid hK; clear hK
      all_goals (
      have hx20 : a.tmps[20]? = some (.pointer (some ⟨w.heap.size, 1, none⟩)) := hd 9 _ rfl (by kernel_rfl)
      have es20 : a.tmps.getD 20 undef = _ := getD_of hx20; clear hx20
      clear ht hd
      have HM := Lib.hid (hM (fun s0 h => by cases h; kernel_rfl))
      clear hM
      have zc0 := HM.out.cell 1 (v := .int .i64 a0_1) rfl
      refine wpOp_step (by simp only [List.getElem?_toArray, List.getElem?_cons_succ, List.getElem?_cons_zero]; rfl) (fun K' hK' => ?_)
      have HK' := Lib.hid hK'; clear hK'
      go_simp
      exact HK'.out _ _ HK.out)
    · intro a wz K hb ht hd hM hK
      have hbw := Lib.hid (C1.out.trans ((Below.refl w.heap.size w1).drew.trans hb)); clear hb
      have HK := Lib.hid hK; clear hK
      all_goals (
      have hx21 : a.tmps[21]? = some (.int .i64 a0_1) := hd 10 _ rfl (by kernel_rfl)
      have es21 : a.tmps.getD 21 undef = _ := getD_of hx21; clear hx21
      clear ht hd
      clear hM
      have kk := K1.out
      refine wpOp_step (by simp only [List.getElem?_toArray, List.getElem?_cons_succ, List.getElem?_cons_zero]; rfl) (fun K' hK' => ?_)
      have HK' := Lib.hid hK'; clear hK'
      go_simp
      exact HK'.out _ _ HK.out)
    · intro a wz K hb ht hd hM hK
      have hbw := Lib.hid (C1.out.trans ((Below.refl w.heap.size w1).drew.trans hb)); clear hb
      have HK := Lib.hid hK; clear hK
      all_goals (
      have hx1 := (ht 1 rfl).trans rfl
      have es1 : a.tmps.getD 1 undef = _ := getD_of hx1; clear hx1
      have hx11 : a.tmps[11]? = some (.int .i64 0) := hd 0 _ rfl (by kernel_rfl)
      have es11 : a.tmps.getD 11 undef = _ := getD_of hx11; clear hx11
      clear ht hd
      clear hM
      refine wpOp_step (by simp only [List.getElem?_toArray, List.getElem?_cons_succ, List.getElem?_cons_zero]; rfl) (fun K' hK' => ?_)
      have HK' := Lib.hid hK'; clear hK'
      go_simp
      exact HK'.out _ _ HK.out)
    · intro a wz K hb ht hd hM hK
      have hbw := Lib.hid (C1.out.trans ((Below.refl w.heap.size w1).drew.trans hb)); clear hb
      have HK := Lib.hid hK; clear hK
      all_goals (
      have hx23 : a.tmps[23]? = some (.pointer (some ⟨w.heap.size, 0, none⟩)) := hd 12 _ rfl (by kernel_rfl)
      have es23 : a.tmps.getD 23 undef = _ := getD_of hx23; clear hx23
      clear ht hd
      clear hM
      refine wpOp_step (by simp only [List.getElem?_toArray, List.getElem?_cons_succ, List.getElem?_cons_zero]; rfl) (fun K' hK' => ?_)
      have HK' := Lib.hid hK'; clear hK'
      go_simp
      exact HK'.out _ _ HK.out)
    · intro a wz K hb ht hd hM hK
      have hbw := Lib.hid (C1.out.trans ((Below.refl w.heap.size w1).drew.trans hb)); clear hb
      have HK := Lib.hid hK; clear hK
      all_goals (
      have hx1 := (ht 1 rfl).trans rfl
      have es1 : a.tmps.getD 1 undef = _ := getD_of hx1; clear hx1
      have hx12 : a.tmps[12]? = some (.int .i64 0) := hd 1 _ rfl (by kernel_rfl)
      have es12 : a.tmps.getD 12 undef = _ := getD_of hx12; clear hx12
      clear ht hd
      clear hM
      refine wpOp_step (by simp only [List.getElem?_toArray, List.getElem?_cons_succ, List.getElem?_cons_zero]; rfl) (fun K' hK' => ?_)
      have HK' := Lib.hid hK'; clear hK'
      go_simp
      exact HK'.out _ _ HK.out)
    · intro a wz K hb ht hd hM hK
      have hbw := Lib.hid (C1.out.trans ((Below.refl w.heap.size w1).drew.trans hb)); clear hb
      have HK := Lib.hid hK; clear hK
      all_goals (
      have hx25 : a.tmps[25]? = some (.pointer (some ⟨w.heap.size, 0, none⟩)) := hd 14 _ rfl (by kernel_rfl)
      have es25 : a.tmps.getD 25 undef = _ := getD_of hx25; clear hx25
      clear ht hd
      clear hM
      refine wpOp_step (by simp only [List.getElem?_toArray, List.getElem?_cons_succ, List.getElem?_cons_zero]; rfl) (fun K' hK' => ?_)
      have HK' := Lib.hid hK'; clear hK'
      go_simp
      exact HK'.out _ _ HK.out)
  · refine ⟨?_, ?_, trivial⟩
    · intro a wz cs K hb ht hd hbx hsz hK
      have HK := Lib.hid hK; clear hK hb
      all_goals (
      have hx24 : a.tmps[24]? = some (.pointer (some ⟨w.heap.size, 0, none⟩)) := hd 13 _ rfl (by kernel_rfl)
      have es24 : a.tmps.getD 24 undef = _ := getD_of hx24; clear hx24
      have hx17 : a.tmps[17]? = some (.int .i64 (2 * p0)) := hd 6 _ rfl (by kernel_rfl)
      have es17 : a.tmps.getD 17 undef = _ := getD_of hx17; clear hx17
      clear ht hd
      obtain ⟨zv0, zc0⟩ := hbx.some (i := 0 + 0) (by rw [hsz]; simp); have zf0 := hbx.free (0 + 0)
      have zl := hbx.lt; clear hbx hsz
      refine wpOp_step (by simp only [List.getElem?_toArray, List.getElem?_cons_succ, List.getElem?_cons_zero]; rfl) (fun K' hK' => ?_)
      have HK' := Lib.hid hK'; clear hK'
      go_simp
      exact HK'.out _ _ HK.out)
    · intro a wz cs K hb ht hd hbx hsz hK
      have HK := Lib.hid hK; clear hK hb
      all_goals (
      have hx26 : a.tmps[26]? = some (.pointer (some ⟨w.heap.size, 1, none⟩)) := hd 15 _ rfl (by kernel_rfl)
      have es26 : a.tmps.getD 26 undef = _ := getD_of hx26; clear hx26
      have hx22 : a.tmps[22]? = some (.int .i64 (2 * p1)) := hd 11 _ rfl (by kernel_rfl)
      have es22 : a.tmps.getD 22 undef = _ := getD_of hx22; clear hx22
      clear ht hd
      obtain ⟨zv0, zc0⟩ := hbx.some (i := 1 + 0) (by rw [hsz]; simp); have zf0 := hbx.free (1 + 0)
      have zl := hbx.lt; clear hbx hsz
      refine wpOp_step (by simp only [List.getElem?_toArray, List.getElem?_cons_succ, List.getElem?_cons_zero]; rfl) (fun K' hK' => ?_)
      have HK' := Lib.hid hK'; clear hK'
      go_simp
      exact HK'.out _ _ HK.out)
  intro w2 hb hx
  have C2 := Lib.hid (C1.out.trans ((Below.refl w.heap.size w1).drew.trans hb)); clear hb
  have M2 : Hid (Bx w2 (w.heap.size) #[.int .i64 (2 * p0), .int .i64 (2 * p1), .int .i64 a0_2, .int .i64 a0_3, .int .i64 a0_4, .int .i64 a0_5] 41) := Lib.hid hx; clear hx M1 MD C1
  simp only [List.foldl_cons, List.foldl_nil, Act.put, List.setIfInBounds_toArray, List.set_cons_zero, List.set_cons_succ]
  go_wp2_with fail
  rw [rounds_succ]
  go_upto_region 4 with (fail)
  have MD := Lib.hid (show Bx w2.drew (w.heap.size) #[.int .i64 (2 * p0), .int .i64 (2 * p1), .int .i64 a0_2, .int .i64 a0_3, .int .i64 a0_4, .int .i64 a0_5] 41 from bx_dr M2.out)
  refine wp_region_held_drew (S := fun _ => True) (by kernel_rfl) trivial (fun _ => ?_)
  refine wpAnyH_genM w.heap.size (w.heap.size) 41 #[.int .i64 (2 * p0), .int .i64 (2 * p1), .int .i64 a0_2, .int .i64 a0_3, .int .i64 a0_4, .int .i64 a0_5] [⟨14, 2, [.int .i64 (2 * p2)]⟩, ⟨17, 3, [.int .i64 (2 * p3)]⟩] [⟨0, 11, .int .i64 1⟩, ⟨1, 12, .int .i64 1⟩, ⟨2, 13, .int .i64 1⟩, ⟨3, 14, .pointer (some ⟨w.heap.size, 2, none⟩)⟩, ⟨4, 15, .pointer (some ⟨w.heap.size, 2, none⟩)⟩, ⟨5, 16, .int .i64 a0_2⟩, ⟨6, 17, .int .i64 (2 * p2)⟩, ⟨7, 18, .int .i64 1⟩, ⟨8, 19, .pointer (some ⟨w.heap.size, 2, none⟩)⟩, ⟨9, 20, .pointer (some ⟨w.heap.size, 3, none⟩)⟩, ⟨10, 21, .int .i64 a0_3⟩, ⟨11, 22, .int .i64 (2 * p3)⟩, ⟨12, 23, .pointer (some ⟨w.heap.size, 2, none⟩)⟩, ⟨13, 24, .pointer (some ⟨w.heap.size, 2, none⟩)⟩, ⟨15, 25, .pointer (some ⟨w.heap.size, 2, none⟩)⟩, ⟨16, 26, .pointer (some ⟨w.heap.size, 3, none⟩)⟩] (by kernel_rfl) (fun _ => trivial) (Nat.le_refl _) MD.out ?_ ?_ ?_
  · refine ⟨?_, ?_, ?_, ?_, ?_, ?_, ?_, ?_, ?_, ?_, ?_, ?_, ?_, ?_, ?_, ?_, trivial⟩
    · intro a wz K hb ht hd hM hK
      have hbw := Lib.hid (C2.out.trans ((Below.refl w.heap.size w2).drew.trans hb)); clear hb
      have HK := Lib.hid hK; clear hK
      all_goals (
      have hx3 := (ht 3 rfl).trans rfl
      have es3 : a.tmps.getD 3 undef = _ := getD_of hx3; clear hx3
      clear ht hd
      clear hM
      refine wpOp_step (by simp only [List.getElem?_toArray, List.getElem?_cons_succ, List.getElem?_cons_zero]; rfl) (fun K' hK' => ?_)
      have HK' := Lib.hid hK'; clear hK'
      go_simp
      exact HK'.out _ _ HK.out)
    · intro a wz K hb ht hd hM hK
      have hbw := Lib.hid (C2.out.trans ((Below.refl w.heap.size w2).drew.trans hb)); clear hb
      have HK := Lib.hid hK; clear hK
      all_goals (
      have hx3 := (ht 3 rfl).trans rfl
      have es3 : a.tmps.getD 3 undef = _ := getD_of hx3; clear hx3
      clear ht hd
      clear hM
      refine wpOp_step (by simp only [List.getElem?_toArray, List.getElem?_cons_succ, List.getElem?_cons_zero]; rfl) (fun K' hK' => ?_)
      have HK' := Lib.hid hK'; clear hK'
      go_simp
      exact HK'.out _ _ HK.out)
    · intro a wz K hb ht hd hM hK
      have hbw := Lib.hid (C2.out.trans ((Below.refl w.heap.size w2).drew.trans hb)); clear hb
      have HK := Lib.hid hK; clear hK
      all_goals (
      have hx3 := (ht 3 rfl).trans rfl
      have es3 : a.tmps.getD 3 undef = _ := getD_of hx3; clear hx3
      clear ht hd
      clear hM
      refine wpOp_step (by simp only [List.getElem?_toArray, List.getElem?_cons_succ, List.getElem?_cons_zero]; rfl) (fun K' hK' => ?_)
      have HK' := Lib.hid hK'; clear hK'
      go_simp
      exact HK'.out _ _ HK.out)
    · intro a wz K hb ht hd hM hK
      have hbw := Lib.hid (C2.out.trans ((Below.refl w.heap.size w2).drew.trans hb)); clear hb
      have HK := Lib.hid hK; clear hK
      all_goals (
      have hx1 := (ht 1 rfl).trans rfl
      have es1 : a.tmps.getD 1 undef = _ := getD_of hx1; clear hx1
      have hx13 : a.tmps[13]? = some (.int .i64 1) := hd 2 _ rfl (by kernel_rfl)
      have es13 : a.tmps.getD 13 undef = _ := getD_of hx13; clear hx13
      clear ht hd
      clear hM
      refine wpOp_step (by simp only [List.getElem?_toArray, List.getElem?_cons_succ, List.getElem?_cons_zero]; rfl) (fun K' hK' => ?_)
      have HK' := Lib.hid hK'; clear hK'
      go_simp
      exact HK'.out _ _ HK.out)
    · intro a wz K hb ht hd hM hK
      have hbw := Lib.hid (C2.out.trans ((Below.refl w.heap.size w2).drew.trans hb)); clear hb
      have HK := Lib.hid hK; clear hK
      all_goals (
      have hx14 : a.tmps[14]? = some (.pointer (some ⟨w.heap.size, 2, none⟩)) := hd 3 _ rfl (by kernel_rfl)
      have es14 : a.tmps.getD 14 undef = _ := getD_of hx14; clear hx14
      clear ht hd
      clear hM
      refine wpOp_step (by simp only [List.getElem?_toArray, List.getElem?_cons_succ, List.getElem?_cons_zero]; rfl) (fun K' hK' => ?_)
      have HK' := Lib.hid hK'; clear hK'
      go_simp
      exact HK'.out _ _ HK.out)
    · intro a wz K hb ht hd hM hK
      have hbw := Lib.hid (C2.out.trans ((Below.refl w.heap.size w2).drew.trans hb)); clear hb
      have HK := Lib.hid hK; clear hK
      all_goals (
      have hx15 : a.tmps[15]? = some (.pointer (some ⟨w.heap.size, 2, none⟩)) := hd 4 _ rfl (by kernel_rfl)
      have es15 : a.tmps.getD 15 undef = _ := getD_of hx15; clear hx15
      clear ht hd
      have HM := Lib.hid (hM (fun s0 h => by cases h; kernel_rfl))
      clear hM
      have zc0 := HM.out.cell 2 (v := .int .i64 a0_2) rfl
      refine wpOp_step (by simp only [List.getElem?_toArray, List.getElem?_cons_succ, List.getElem?_cons_zero]; rfl) (fun K' hK' => ?_)
      have HK' := Lib.hid hK'; clear hK'
      go_simp
      exact HK'.out _ _ HK.out)
    · intro a wz K hb ht hd hM hK
      have hbw := Lib.hid (C2.out.trans ((Below.refl w.heap.size w2).drew.trans hb)); clear hb
      have HK := Lib.hid hK; clear hK
      all_goals (
      have hx16 : a.tmps[16]? = some (.int .i64 a0_2) := hd 5 _ rfl (by kernel_rfl)
      have es16 : a.tmps.getD 16 undef = _ := getD_of hx16; clear hx16
      clear ht hd
      clear hM
      have kk := K2.out
      refine wpOp_step (by simp only [List.getElem?_toArray, List.getElem?_cons_succ, List.getElem?_cons_zero]; rfl) (fun K' hK' => ?_)
      have HK' := Lib.hid hK'; clear hK'
      go_simp
      exact HK'.out _ _ HK.out)
    · intro a wz K hb ht hd hM hK
      have hbw := Lib.hid (C2.out.trans ((Below.refl w.heap.size w2).drew.trans hb)); clear hb
      have HK := Lib.hid hK; clear hK
      all_goals (
      have hx3 := (ht 3 rfl).trans rfl
      have es3 : a.tmps.getD 3 undef = _ := getD_of hx3; clear hx3
      clear ht hd
      clear hM
      refine wpOp_step (by simp only [List.getElem?_toArray, List.getElem?_cons_succ, List.getElem?_cons_zero]; rfl) (fun K' hK' => ?_)
      have HK' := Lib.hid hK'; clear hK'
      go_simp
      exact HK'.out _ _ HK.out)
    · intro a wz K hb ht hd hM hK
      have hbw := Lib.hid (C2.out.trans ((Below.refl w.heap.size w2).drew.trans hb)); clear hb
      have HK := Lib.hid hK; clear hK
      all_goals (
      have hx1 := (ht 1 rfl).trans rfl
      have es1 : a.tmps.getD 1 undef = _ := getD_of hx1; clear hx1
      have hx18 : a.tmps[18]? = some (.int .i64 1) := hd 7 _ rfl (by kernel_rfl)
      have es18 : a.tmps.getD 18 undef = _ := getD_of hx18; clear hx18
      clear ht hd
      clear hM
      refine wpOp_step (by simp only [List.getElem?_toArray, List.getElem?_cons_succ, List.getElem?_cons_zero]; rfl) (fun K' hK' => ?_)
      have HK' := Lib.hid hK'; clear hK'
      go_simp
      exact HK'.out _ _ HK.out)
    · intro a wz K hb ht hd hM hK
      have hbw := Lib.hid (C2.out.trans ((Below.refl w.heap.size w2).drew.trans hb)); clear hb
      have HK := Lib.hid hK; clear hK
      all_goals (
      have hx19 : a.tmps[19]? = some (.pointer (some ⟨w.heap.size, 2, none⟩)) := hd 8 _ rfl (by kernel_rfl)
      have es19 : a.tmps.getD 19 undef = _ := getD_of hx19; clear hx19
      clear ht hd
      clear hM
      refine wpOp_step (by simp only [List.getElem?_toArray, List.getElem?_cons_succ, List.getElem?_cons_zero]; rfl) (fun K' hK' => ?_)
      have HK' := Lib.hid hK'; clear hK'
      go_simp
      exact HK'.out _ _ HK.out)
    · intro a wz K hb ht hd hM hK
      have hbw := Lib.hid (C2.out.trans ((Below.refl w.heap.size w2).drew.trans hb)); clear hb
      have HK := Lib.hid hK; clear hK
      all_goals (
      have hx20 : a.tmps[20]? = some (.pointer (some ⟨w.heap.size, 3, none⟩)) := hd 9 _ rfl (by kernel_rfl)
      have es20 : a.tmps.getD 20 undef = _ := getD_of hx20; clear hx20
      clear ht hd
      have HM := Lib.hid (hM (fun s0 h => by cases h; kernel_rfl))
      clear hM
      have zc0 := HM.out.cell 3 (v := .int .i64 a0_3) rfl
      refine wpOp_step (by simp only [List.getElem?_toArray, List.getElem?_cons_succ, List.getElem?_cons_zero]; rfl) (fun K' hK' => ?_)
      have HK' := Lib.hid hK'; clear hK'
      go_simp
      exact HK'.out _ _ HK.out)
    · intro a wz K hb ht hd hM hK
      have hbw := Lib.hid (C2.out.trans ((Below.refl w.heap.size w2).drew.trans hb)); clear hb
      have HK := Lib.hid hK; clear hK
      all_goals (
      have hx21 : a.tmps[21]? = some (.int .i64 a0_3) := hd 10 _ rfl (by kernel_rfl)
      have es21 : a.tmps.getD 21 undef = _ := getD_of hx21; clear hx21
      clear ht hd
      clear hM
      have kk := K3.out
      refine wpOp_step (by simp only [List.getElem?_toArray, List.getElem?_cons_succ, List.getElem?_cons_zero]; rfl) (fun K' hK' => ?_)
      have HK' := Lib.hid hK'; clear hK'
      go_simp
      exact HK'.out _ _ HK.out)
    · intro a wz K hb ht hd hM hK
      have hbw := Lib.hid (C2.out.trans ((Below.refl w.heap.size w2).drew.trans hb)); clear hb
      have HK := Lib.hid hK; clear hK
      all_goals (
      have hx1 := (ht 1 rfl).trans rfl
      have es1 : a.tmps.getD 1 undef = _ := getD_of hx1; clear hx1
      have hx11 : a.tmps[11]? = some (.int .i64 1) := hd 0 _ rfl (by kernel_rfl)
      have es11 : a.tmps.getD 11 undef = _ := getD_of hx11; clear hx11
      clear ht hd
      clear hM
      refine wpOp_step (by simp only [List.getElem?_toArray, List.getElem?_cons_succ, List.getElem?_cons_zero]; rfl) (fun K' hK' => ?_)
      have HK' := Lib.hid hK'; clear hK'
      go_simp
      exact HK'.out _ _ HK.out)
    · intro a wz K hb ht hd hM hK
      have hbw := Lib.hid (C2.out.trans ((Below.refl w.heap.size w2).drew.trans hb)); clear hb
      have HK := Lib.hid hK; clear hK
      all_goals (
      have hx23 : a.tmps[23]? = some (.pointer (some ⟨w.heap.size, 2, none⟩)) := hd 12 _ rfl (by kernel_rfl)
      have es23 : a.tmps.getD 23 undef = _ := getD_of hx23; clear hx23
      clear ht hd
      clear hM
      refine wpOp_step (by simp only [List.getElem?_toArray, List.getElem?_cons_succ, List.getElem?_cons_zero]; rfl) (fun K' hK' => ?_)
      have HK' := Lib.hid hK'; clear hK'
      go_simp
      exact HK'.out _ _ HK.out)
    · intro a wz K hb ht hd hM hK
      have hbw := Lib.hid (C2.out.trans ((Below.refl w.heap.size w2).drew.trans hb)); clear hb
      have HK := Lib.hid hK; clear hK
      all_goals (
      have hx1 := (ht 1 rfl).trans rfl
      have es1 : a.tmps.getD 1 undef = _ := getD_of hx1; clear hx1
      have hx12 : a.tmps[12]? = some (.int .i64 1) := hd 1 _ rfl (by kernel_rfl)
      have es12 : a.tmps.getD 12 undef = _ := getD_of hx12; clear hx12
      clear ht hd
      clear hM
      refine wpOp_step (by simp only [List.getElem?_toArray, List.getElem?_cons_succ, List.getElem?_cons_zero]; rfl) (fun K' hK' => ?_)
      have HK' := Lib.hid hK'; clear hK'
      go_simp
      exact HK'.out _ _ HK.out)
    · intro a wz K hb ht hd hM hK
      have hbw := Lib.hid (C2.out.trans ((Below.refl w.heap.size w2).drew.trans hb)); clear hb
      have HK := Lib.hid hK; clear hK
      all_goals (
      have hx25 : a.tmps[25]? = some (.pointer (some ⟨w.heap.size, 2, none⟩)) := hd 14 _ rfl (by kernel_rfl)
      have es25 : a.tmps.getD 25 undef = _ := getD_of hx25; clear hx25
      clear ht hd
      clear hM
      refine wpOp_step (by simp only [List.getElem?_toArray, List.getElem?_cons_succ, List.getElem?_cons_zero]; rfl) (fun K' hK' => ?_)
      have HK' := Lib.hid hK'; clear hK'
      go_simp
      exact HK'.out _ _ HK.out)
  · refine ⟨?_, ?_, trivial⟩
    · intro a wz cs K hb ht hd hbx hsz hK
      have HK := Lib.hid hK; clear hK hb
      all_goals (
      have hx24 : a.tmps[24]? = some (.pointer (some ⟨w.heap.size, 2, none⟩)) := hd 13 _ rfl (by kernel_rfl)
      have es24 : a.tmps.getD 24 undef = _ := getD_of hx24; clear hx24
      have hx17 : a.tmps[17]? = some (.int .i64 (2 * p2)) := hd 6 _ rfl (by kernel_rfl)
      have es17 : a.tmps.getD 17 undef = _ := getD_of hx17; clear hx17
      clear ht hd
      obtain ⟨zv0, zc0⟩ := hbx.some (i := 2 + 0) (by rw [hsz]; simp); have zf0 := hbx.free (2 + 0)
      have zl := hbx.lt; clear hbx hsz
      refine wpOp_step (by simp only [List.getElem?_toArray, List.getElem?_cons_succ, List.getElem?_cons_zero]; rfl) (fun K' hK' => ?_)
      have HK' := Lib.hid hK'; clear hK'
      go_simp
      exact HK'.out _ _ HK.out)
    · intro a wz cs K hb ht hd hbx hsz hK
      have HK := Lib.hid hK; clear hK hb
      all_goals (
      have hx26 : a.tmps[26]? = some (.pointer (some ⟨w.heap.size, 3, none⟩)) := hd 15 _ rfl (by kernel_rfl)
      have es26 : a.tmps.getD 26 undef = _ := getD_of hx26; clear hx26
      have hx22 : a.tmps[22]? = some (.int .i64 (2 * p3)) := hd 11 _ rfl (by kernel_rfl)
      have es22 : a.tmps.getD 22 undef = _ := getD_of hx22; clear hx22
      clear ht hd
      obtain ⟨zv0, zc0⟩ := hbx.some (i := 3 + 0) (by rw [hsz]; simp); have zf0 := hbx.free (3 + 0)
      have zl := hbx.lt; clear hbx hsz
      refine wpOp_step (by simp only [List.getElem?_toArray, List.getElem?_cons_succ, List.getElem?_cons_zero]; rfl) (fun K' hK' => ?_)
      have HK' := Lib.hid hK'; clear hK'
      go_simp
      exact HK'.out _ _ HK.out)
  intro w3 hb hx
  have C3 := Lib.hid (C2.out.trans ((Below.refl w.heap.size w2).drew.trans hb)); clear hb
  have M3 : Hid (Bx w3 (w.heap.size) #[.int .i64 (2 * p0), .int .i64 (2 * p1), .int .i64 (2 * p2), .int .i64 (2 * p3), .int .i64 a0_4, .int .i64 a0_5] 41) := Lib.hid hx; clear hx M2 MD C2
  simp only [List.foldl_cons, List.foldl_nil, Act.put, List.setIfInBounds_toArray, List.set_cons_zero, List.set_cons_succ]
  go_wp2_with fail
  rw [rounds_succ]
  go_upto_region 4 with (fail)
  have MD := Lib.hid (show Bx w3.drew (w.heap.size) #[.int .i64 (2 * p0), .int .i64 (2 * p1), .int .i64 (2 * p2), .int .i64 (2 * p3), .int .i64 a0_4, .int .i64 a0_5] 41 from bx_dr M3.out)
  refine wp_region_held_drew (S := fun _ => True) (by kernel_rfl) trivial (fun _ => ?_)
  refine wpAnyH_genM w.heap.size (w.heap.size) 41 #[.int .i64 (2 * p0), .int .i64 (2 * p1), .int .i64 (2 * p2), .int .i64 (2 * p3), .int .i64 a0_4, .int .i64 a0_5] [⟨14, 4, [.int .i64 (2 * p4)]⟩, ⟨17, 5, [.int .i64 (2 * p5)]⟩] [⟨0, 11, .int .i64 2⟩, ⟨1, 12, .int .i64 2⟩, ⟨2, 13, .int .i64 2⟩, ⟨3, 14, .pointer (some ⟨w.heap.size, 4, none⟩)⟩, ⟨4, 15, .pointer (some ⟨w.heap.size, 4, none⟩)⟩, ⟨5, 16, .int .i64 a0_4⟩, ⟨6, 17, .int .i64 (2 * p4)⟩, ⟨7, 18, .int .i64 2⟩, ⟨8, 19, .pointer (some ⟨w.heap.size, 4, none⟩)⟩, ⟨9, 20, .pointer (some ⟨w.heap.size, 5, none⟩)⟩, ⟨10, 21, .int .i64 a0_5⟩, ⟨11, 22, .int .i64 (2 * p5)⟩, ⟨12, 23, .pointer (some ⟨w.heap.size, 4, none⟩)⟩, ⟨13, 24, .pointer (some ⟨w.heap.size, 4, none⟩)⟩, ⟨15, 25, .pointer (some ⟨w.heap.size, 4, none⟩)⟩, ⟨16, 26, .pointer (some ⟨w.heap.size, 5, none⟩)⟩] (by kernel_rfl) (fun _ => trivial) (Nat.le_refl _) MD.out ?_ ?_ ?_
  · refine ⟨?_, ?_, ?_, ?_, ?_, ?_, ?_, ?_, ?_, ?_, ?_, ?_, ?_, ?_, ?_, ?_, trivial⟩
    · intro a wz K hb ht hd hM hK
      have hbw := Lib.hid (C3.out.trans ((Below.refl w.heap.size w3).drew.trans hb)); clear hb
      have HK := Lib.hid hK; clear hK
      all_goals (
      have hx3 := (ht 3 rfl).trans rfl
      have es3 : a.tmps.getD 3 undef = _ := getD_of hx3; clear hx3
      clear ht hd
      clear hM
      refine wpOp_step (by simp only [List.getElem?_toArray, List.getElem?_cons_succ, List.getElem?_cons_zero]; rfl) (fun K' hK' => ?_)
      have HK' := Lib.hid hK'; clear hK'
      go_simp
      exact HK'.out _ _ HK.out)
    · intro a wz K hb ht hd hM hK
      have hbw := Lib.hid (C3.out.trans ((Below.refl w.heap.size w3).drew.trans hb)); clear hb
      have HK := Lib.hid hK; clear hK
      all_goals (
      have hx3 := (ht 3 rfl).trans rfl
      have es3 : a.tmps.getD 3 undef = _ := getD_of hx3; clear hx3
      clear ht hd
      clear hM
      refine wpOp_step (by simp only [List.getElem?_toArray, List.getElem?_cons_succ, List.getElem?_cons_zero]; rfl) (fun K' hK' => ?_)
      have HK' := Lib.hid hK'; clear hK'
      go_simp
      exact HK'.out _ _ HK.out)
    · intro a wz K hb ht hd hM hK
      have hbw := Lib.hid (C3.out.trans ((Below.refl w.heap.size w3).drew.trans hb)); clear hb
      have HK := Lib.hid hK; clear hK
      all_goals (
      have hx3 := (ht 3 rfl).trans rfl
      have es3 : a.tmps.getD 3 undef = _ := getD_of hx3; clear hx3
      clear ht hd
      clear hM
      refine wpOp_step (by simp only [List.getElem?_toArray, List.getElem?_cons_succ, List.getElem?_cons_zero]; rfl) (fun K' hK' => ?_)
      have HK' := Lib.hid hK'; clear hK'
      go_simp
      exact HK'.out _ _ HK.out)
    · intro a wz K hb ht hd hM hK
      have hbw := Lib.hid (C3.out.trans ((Below.refl w.heap.size w3).drew.trans hb)); clear hb
      have HK := Lib.hid hK; clear hK
      all_goals (
      have hx1 := (ht 1 rfl).trans rfl
      have es1 : a.tmps.getD 1 undef = _ := getD_of hx1; clear hx1
      have hx13 : a.tmps[13]? = some (.int .i64 2) := hd 2 _ rfl (by kernel_rfl)
      have es13 : a.tmps.getD 13 undef = _ := getD_of hx13; clear hx13
      clear ht hd
      clear hM
      refine wpOp_step (by simp only [List.getElem?_toArray, List.getElem?_cons_succ, List.getElem?_cons_zero]; rfl) (fun K' hK' => ?_)
      have HK' := Lib.hid hK'; clear hK'
      go_simp
      exact HK'.out _ _ HK.out)
    · intro a wz K hb ht hd hM hK
      have hbw := Lib.hid (C3.out.trans ((Below.refl w.heap.size w3).drew.trans hb)); clear hb
      have HK := Lib.hid hK; clear hK
      all_goals (
      have hx14 : a.tmps[14]? = some (.pointer (some ⟨w.heap.size, 4, none⟩)) := hd 3 _ rfl (by kernel_rfl)
      have es14 : a.tmps.getD 14 undef = _ := getD_of hx14; clear hx14
      clear ht hd
      clear hM
      refine wpOp_step (by simp only [List.getElem?_toArray, List.getElem?_cons_succ, List.getElem?_cons_zero]; rfl) (fun K' hK' => ?_)
      have HK' := Lib.hid hK'; clear hK'
      go_simp
      exact HK'.out _ _ HK.out)
    · intro a wz K hb ht hd hM hK
      have hbw := Lib.hid (C3.out.trans ((Below.refl w.heap.size w3).drew.trans hb)); clear hb
      have HK := Lib.hid hK; clear hK
      all_goals (
      have hx15 : a.tmps[15]? = some (.pointer (some ⟨w.heap.size, 4, none⟩)) := hd 4 _ rfl (by kernel_rfl)
      have es15 : a.tmps.getD 15 undef = _ := getD_of hx15; clear hx15
      clear ht hd
      have HM := Lib.hid (hM (fun s0 h => by cases h; kernel_rfl))
      clear hM
      have zc0 := HM.out.cell 4 (v := .int .i64 a0_4) rfl
      refine wpOp_step (by simp only [List.getElem?_toArray, List.getElem?_cons_succ, List.getElem?_cons_zero]; rfl) (fun K' hK' => ?_)
      have HK' := Lib.hid hK'; clear hK'
      go_simp
      exact HK'.out _ _ HK.out)
    · intro a wz K hb ht hd hM hK
      have hbw := Lib.hid (C3.out.trans ((Below.refl w.heap.size w3).drew.trans hb)); clear hb
      have HK := Lib.hid hK; clear hK
      all_goals (
      have hx16 : a.tmps[16]? = some (.int .i64 a0_4) := hd 5 _ rfl (by kernel_rfl)
      have es16 : a.tmps.getD 16 undef = _ := getD_of hx16; clear hx16
      clear ht hd
      clear hM
      have kk := K4.out
      refine wpOp_step (by simp only [List.getElem?_toArray, List.getElem?_cons_succ, List.getElem?_cons_zero]; rfl) (fun K' hK' => ?_)
      have HK' := Lib.hid hK'; clear hK'
      go_simp
      exact HK'.out _ _ HK.out)
    · intro a wz K hb ht hd hM hK
      have hbw := Lib.hid (C3.out.trans ((Below.refl w.heap.size w3).drew.trans hb)); clear hb
      have HK := Lib.hid hK; clear hK
      all_goals (
      have hx3 := (ht 3 rfl).trans rfl
      have es3 : a.tmps.getD 3 undef = _ := getD_of hx3; clear hx3
      clear ht hd
      clear hM
      refine wpOp_step (by simp only [List.getElem?_toArray, List.getElem?_cons_succ, List.getElem?_cons_zero]; rfl) (fun K' hK' => ?_)
      have HK' := Lib.hid hK'; clear hK'
      go_simp
      exact HK'.out _ _ HK.out)
    · intro a wz K hb ht hd hM hK
      have hbw := Lib.hid (C3.out.trans ((Below.refl w.heap.size w3).drew.trans hb)); clear hb
      have HK := Lib.hid hK; clear hK
      all_goals (
      have hx1 := (ht 1 rfl).trans rfl
      have es1 : a.tmps.getD 1 undef = _ := getD_of hx1; clear hx1
      have hx18 : a.tmps[18]? = some (.int .i64 2) := hd 7 _ rfl (by kernel_rfl)
      have es18 : a.tmps.getD 18 undef = _ := getD_of hx18; clear hx18
      clear ht hd
      clear hM
      refine wpOp_step (by simp only [List.getElem?_toArray, List.getElem?_cons_succ, List.getElem?_cons_zero]; rfl) (fun K' hK' => ?_)
      have HK' := Lib.hid hK'; clear hK'
      go_simp
      exact HK'.out _ _ HK.out)
    · intro a wz K hb ht hd hM hK
      have hbw := Lib.hid (C3.out.trans ((Below.refl w.heap.size w3).drew.trans hb)); clear hb
      have HK := Lib.hid hK; clear hK
      all_goals (
      have hx19 : a.tmps[19]? = some (.pointer (some ⟨w.heap.size, 4, none⟩)) := hd 8 _ rfl (by kernel_rfl)
      have es19 : a.tmps.getD 19 undef = _ := getD_of hx19; clear hx19
      clear ht hd
      clear hM
      refine wpOp_step (by simp only [List.getElem?_toArray, List.getElem?_cons_succ, List.getElem?_cons_zero]; rfl) (fun K' hK' => ?_)
      have HK' := Lib.hid hK'; clear hK'
      go_simp
      exact HK'.out _ _ HK.out)
    · intro a wz K hb ht hd hM hK
      have hbw := Lib.hid (C3.out.trans ((Below.refl w.heap.size w3).drew.trans hb)); clear hb
      have HK := Lib.hid hK; clear hK
      all_goals (
      have hx20 : a.tmps[20]? = some (.pointer (some ⟨w.heap.size, 5, none⟩)) := hd 9 _ rfl (by kernel_rfl)
      have es20 : a.tmps.getD 20 undef = _ := getD_of hx20; clear hx20
      clear ht hd
      have HM := Lib.hid (hM (fun s0 h => by cases h; kernel_rfl))
      clear hM
      have zc0 := HM.out.cell 5 (v := .int .i64 a0_5) rfl
      refine wpOp_step (by simp only [List.getElem?_toArray, List.getElem?_cons_succ, List.getElem?_cons_zero]; rfl) (fun K' hK' => ?_)
      have HK' := Lib.hid hK'; clear hK'
      go_simp
      exact HK'.out _ _ HK.out)
    · intro a wz K hb ht hd hM hK
      have hbw := Lib.hid (C3.out.trans ((Below.refl w.heap.size w3).drew.trans hb)); clear hb
      have HK := Lib.hid hK; clear hK
      all_goals (
      have hx21 : a.tmps[21]? = some (.int .i64 a0_5) := hd 10 _ rfl (by kernel_rfl)
      have es21 : a.tmps.getD 21 undef = _ := getD_of hx21; clear hx21
      clear ht hd
      clear hM
      have kk := K5.out
      refine wpOp_step (by simp only [List.getElem?_toArray, List.getElem?_cons_succ, List.getElem?_cons_zero]; rfl) (fun K' hK' => ?_)
      have HK' := Lib.hid hK'; clear hK'
      go_simp
      exact HK'.out _ _ HK.out)
    · intro a wz K hb ht hd hM hK
      have hbw := Lib.hid (C3.out.trans ((Below.refl w.heap.size w3).drew.trans hb)); clear hb
      have HK := Lib.hid hK; clear hK
      all_goals (
      have hx1 := (ht 1 rfl).trans rfl
      have es1 : a.tmps.getD 1 undef = _ := getD_of hx1; clear hx1
      have hx11 : a.tmps[11]? = some (.int .i64 2) := hd 0 _ rfl (by kernel_rfl)
      have es11 : a.tmps.getD 11 undef = _ := getD_of hx11; clear hx11
      clear ht hd
      clear hM
      refine wpOp_step (by simp only [List.getElem?_toArray, List.getElem?_cons_succ, List.getElem?_cons_zero]; rfl) (fun K' hK' => ?_)
      have HK' := Lib.hid hK'; clear hK'
      go_simp
      exact HK'.out _ _ HK.out)
    · intro a wz K hb ht hd hM hK
      have hbw := Lib.hid (C3.out.trans ((Below.refl w.heap.size w3).drew.trans hb)); clear hb
      have HK := Lib.hid hK; clear hK
      all_goals (
      have hx23 : a.tmps[23]? = some (.pointer (some ⟨w.heap.size, 4, none⟩)) := hd 12 _ rfl (by kernel_rfl)
      have es23 : a.tmps.getD 23 undef = _ := getD_of hx23; clear hx23
      clear ht hd
      clear hM
      refine wpOp_step (by simp only [List.getElem?_toArray, List.getElem?_cons_succ, List.getElem?_cons_zero]; rfl) (fun K' hK' => ?_)
      have HK' := Lib.hid hK'; clear hK'
      go_simp
      exact HK'.out _ _ HK.out)
    · intro a wz K hb ht hd hM hK
      have hbw := Lib.hid (C3.out.trans ((Below.refl w.heap.size w3).drew.trans hb)); clear hb
      have HK := Lib.hid hK; clear hK
      all_goals (
      have hx1 := (ht 1 rfl).trans rfl
      have es1 : a.tmps.getD 1 undef = _ := getD_of hx1; clear hx1
      have hx12 : a.tmps[12]? = some (.int .i64 2) := hd 1 _ rfl (by kernel_rfl)
      have es12 : a.tmps.getD 12 undef = _ := getD_of hx12; clear hx12
      clear ht hd
      clear hM
      refine wpOp_step (by simp only [List.getElem?_toArray, List.getElem?_cons_succ, List.getElem?_cons_zero]; rfl) (fun K' hK' => ?_)
      have HK' := Lib.hid hK'; clear hK'
      go_simp
      exact HK'.out _ _ HK.out)
    · intro a wz K hb ht hd hM hK
      have hbw := Lib.hid (C3.out.trans ((Below.refl w.heap.size w3).drew.trans hb)); clear hb
      have HK := Lib.hid hK; clear hK
      all_goals (
      have hx25 : a.tmps[25]? = some (.pointer (some ⟨w.heap.size, 4, none⟩)) := hd 14 _ rfl (by kernel_rfl)
      have es25 : a.tmps.getD 25 undef = _ := getD_of hx25; clear hx25
      clear ht hd
      clear hM
      refine wpOp_step (by simp only [List.getElem?_toArray, List.getElem?_cons_succ, List.getElem?_cons_zero]; rfl) (fun K' hK' => ?_)
      have HK' := Lib.hid hK'; clear hK'
      go_simp
      exact HK'.out _ _ HK.out)
  · refine ⟨?_, ?_, trivial⟩
    · intro a wz cs K hb ht hd hbx hsz hK
      have HK := Lib.hid hK; clear hK hb
      all_goals (
      have hx24 : a.tmps[24]? = some (.pointer (some ⟨w.heap.size, 4, none⟩)) := hd 13 _ rfl (by kernel_rfl)
      have es24 : a.tmps.getD 24 undef = _ := getD_of hx24; clear hx24
      have hx17 : a.tmps[17]? = some (.int .i64 (2 * p4)) := hd 6 _ rfl (by kernel_rfl)
      have es17 : a.tmps.getD 17 undef = _ := getD_of hx17; clear hx17
      clear ht hd
      obtain ⟨zv0, zc0⟩ := hbx.some (i := 4 + 0) (by rw [hsz]; simp); have zf0 := hbx.free (4 + 0)
      have zl := hbx.lt; clear hbx hsz
      refine wpOp_step (by simp only [List.getElem?_toArray, List.getElem?_cons_succ, List.getElem?_cons_zero]; rfl) (fun K' hK' => ?_)
      have HK' := Lib.hid hK'; clear hK'
      go_simp
      exact HK'.out _ _ HK.out)
    · intro a wz cs K hb ht hd hbx hsz hK
      have HK := Lib.hid hK; clear hK hb
      all_goals (
      have hx26 : a.tmps[26]? = some (.pointer (some ⟨w.heap.size, 5, none⟩)) := hd 15 _ rfl (by kernel_rfl)
      have es26 : a.tmps.getD 26 undef = _ := getD_of hx26; clear hx26
      have hx22 : a.tmps[22]? = some (.int .i64 (2 * p5)) := hd 11 _ rfl (by kernel_rfl)
      have es22 : a.tmps.getD 22 undef = _ := getD_of hx22; clear hx22
      clear ht hd
      obtain ⟨zv0, zc0⟩ := hbx.some (i := 5 + 0) (by rw [hsz]; simp); have zf0 := hbx.free (5 + 0)
      have zl := hbx.lt; clear hbx hsz
      refine wpOp_step (by simp only [List.getElem?_toArray, List.getElem?_cons_succ, List.getElem?_cons_zero]; rfl) (fun K' hK' => ?_)
      have HK' := Lib.hid hK'; clear hK'
      go_simp
      exact HK'.out _ _ HK.out)
  intro w4 hb hx
  have C4 := Lib.hid (C3.out.trans ((Below.refl w.heap.size w3).drew.trans hb)); clear hb
  have M4 : Hid (Bx w4 (w.heap.size) #[.int .i64 (2 * p0), .int .i64 (2 * p1), .int .i64 (2 * p2), .int .i64 (2 * p3), .int .i64 (2 * p4), .int .i64 (2 * p5)] 41) := Lib.hid hx; clear hx M3 MD C3
  simp only [List.foldl_cons, List.foldl_nil, Act.put, List.setIfInBounds_toArray, List.set_cons_zero, List.set_cons_succ]
  go_wp2_with fail
  rw [rounds_succ]
  have FT_5 := Lib.hid (FT.out.below C4.out (Nat.le_refl _))
  have HB5 := Lib.hid (HB0.out.trans (C4.out.mono HB0.out.size))
  have FQ_5 := M4
  clear HB0 FT C4 M4
  clear K0 K1 K2 K3 K4 K5
  have HC3 := Lib.hid (Nat.le_refl 3)
  go_wp2_with fail
  refine (ref15_Valid3 _ _ _ (2 * p0) (2 * p1) (2 * p2) (2 * p3) (2 * p4) (2 * p5) hpp _ HC3.out FQ_5.out.c6).mono ?_
  rintro e w6 ⟨rfl, B⟩
  have HB6 := Lib.hid (HB5.out.trans (B.mono HB5.out.size))
  have FT_6 := Lib.hid (FT_5.out.below B (Nat.le_refl _))
  have FQ_6 := Lib.hid (FQ_5.out.below B (Nat.le_refl _))
  clear B  HB5 FT_5 FQ_5
  cases hd : decide (det (2 * p0) (2 * p1) (2 * p2) (2 * p3) (2 * p4) (2 * p5) = 0)
  rotate_left
  · clear hd
    go_wp2_with fail
    refine (alive15 _ FT_6.out).mono ?_
    rintro e w7 ⟨rfl, B⟩
    have HB7 := Lib.hid (HB6.out.trans (B.mono HB6.out.size))
    have FT_7 := Lib.hid (FT_6.out.below B (Nat.le_refl _))
    have FQ_7 := Lib.hid (FQ_6.out.below B (Nat.le_refl _))
    clear B  HB6 FT_6 FQ_6
    go_wp2_with fail
    go_ret
    exact ⟨rfl, HB7.out⟩
  have hd' : det (2 * p0) (2 * p1) (2 * p2) (2 * p3) (2 * p4) (2 * p5) ≠ 0 := by simpa using hd
  have HM0 := Lib.hid (mid_1 hd')
  have HM1 := Lib.hid (mid_2 hd')
  have HM2 := Lib.hid (mid_3 hd')
  clear hd hd'
  have w1e : IntKind.i64.wrap 1 = 1 := (by decide)
  have w2e : IntKind.i64.wrap 2 = 2 := (by decide)
  have w3e : IntKind.i64.wrap 3 = 3 := (by decide)
  have m1e : (1 : Int).tmod 3 = 1 := (by decide)
  have m2e : (2 : Int).tmod 3 = 2 := (by decide)
  have m3e : (3 : Int).tmod 3 = 0 := (by decide)
  have w0e : IntKind.i64.wrap 0 = 0 := (by decide)
  go_wp2_with fail
  refine wp_loop_rounds 4 ?_
  rw [rounds_succ]
  go_upto_region 12 with (fail)
  have RB6 := Lib.hid (below_drew0 w6)
  refine wp_region_held_drew (S := fun _ => True) (by kernel_rfl) trivial (fun _ => ?_)
  refine wpAnyH_gen [(⟨8, 10, 6, 28, #[.int .i64 0, .int .i64 0], []⟩, fun cs _ => cs = #[.int .i64 (2 * p0), .int .i64 (2 * p1)]), (⟨9, 11, 7, 28, #[.int .i64 0, .int .i64 0], []⟩, fun cs _ => cs = #[.int .i64 (2 * p2), .int .i64 (2 * p3)])] [⟨0, 36, fun x _ => x = .int .i64 0⟩, ⟨1, 37, fun x _ => x = .pointer (some ⟨w.heap.size, 0, none⟩)⟩, ⟨2, 38, fun x _ => x = .agg #[.int .i64 (2 * p0), .int .i64 (2 * p1)]⟩, ⟨3, 39, fun x _ => x = .int .i64 0⟩, ⟨4, 40, fun x _ => x = .int .i64 1⟩, ⟨5, 41, fun x _ => x = .int .i64 1⟩, ⟨6, 42, fun x _ => x = .pointer (some ⟨w.heap.size, 2, none⟩)⟩, ⟨7, 43, fun x _ => x = .agg #[.int .i64 (2 * p2), .int .i64 (2 * p3)]⟩] (by kernel_rfl) (by kernel_rfl) (fun _ => trivial) ?_ ?_ ?_ ?_ ?_ ?_
  · refine ⟨?_, ?_, trivial⟩
    all_goals exact ⟨fun cs => by (dsimp only; repeat (first | exact Stay.const _ | exact Stay.sl _ _ _ _ | exact Stay.nm _ _ _ _ | exact Stay.bx _ _ _ _ | refine Stay.ex fun _ => ?_ | refine Stay.and ?_ ?_)), by dsimp only; decide, by simp [NoU]⟩
  · refine ⟨?_, ?_, ?_, ?_, ?_, ?_, ?_, ?_, trivial⟩
    all_goals (intro x; (dsimp only; repeat (first | exact Stay.const _ | exact Stay.sl _ _ _ _ | exact Stay.nm _ _ _ _ | exact Stay.bx _ _ _ _ | refine Stay.ex fun _ => ?_ | refine Stay.and ?_ ?_)))
  · refine ⟨?_, ?_, trivial⟩
    all_goals (intro a w K h; refine wpOp_step (by simp only [List.getElem?_toArray, List.getElem?_cons_succ, List.getElem?_cons_zero]; rfl) (fun K' hK => ?_); go_simp; exact hK _ _ h)
  · refine ⟨?_, ?_, trivial⟩
    · intro a w B K ht hd hs hb hK
      obtain ⟨x38, hx38, hp38⟩ := hd 2 _ rfl (by kernel_rfl)
      obtain rfl := hp38
      have es38 : a.tmps.getD 38 undef = _ := getD_of hx38; clear hx38
      clear ht hd
      have zc0 := hb.cell 0 (v := .int .i64 0) rfl; have zf0 := hb.free 0
      have zc1 := hb.cell 1 (v := .int .i64 0) rfl; have zf1 := hb.free 1
      have HK := Lib.hid (hK [.int .i64 (2 * p0), .int .i64 (2 * p1)] rfl (by simp [NoU]) rfl); clear hK hb
      simp only [ptrTo] at hs
      have esB : a.tmps.getD 6 undef = _ := getD_of hs; clear hs
      refine wpOp_step (by simp only [List.getElem?_toArray, List.getElem?_cons_succ, List.getElem?_cons_zero]; rfl) (fun K' hK' => ?_)
      go_simp
      exact hK' _ _ HK.out
    · intro a w B K ht hd hs hb hK
      obtain ⟨x43, hx43, hp43⟩ := hd 7 _ rfl (by kernel_rfl)
      obtain rfl := hp43
      have es43 : a.tmps.getD 43 undef = _ := getD_of hx43; clear hx43
      clear ht hd
      have zc0 := hb.cell 0 (v := .int .i64 0) rfl; have zf0 := hb.free 0
      have zc1 := hb.cell 1 (v := .int .i64 0) rfl; have zf1 := hb.free 1
      have HK := Lib.hid (hK [.int .i64 (2 * p2), .int .i64 (2 * p3)] rfl (by simp [NoU]) rfl); clear hK hb
      simp only [ptrTo] at hs
      have esB : a.tmps.getD 7 undef = _ := getD_of hs; clear hs
      refine wpOp_step (by simp only [List.getElem?_toArray, List.getElem?_cons_succ, List.getElem?_cons_zero]; rfl) (fun K' hK' => ?_)
      go_simp
      exact hK' _ _ HK.out
  · refine ⟨?_, ?_, ?_, ?_, ?_, ?_, ?_, ?_, trivial⟩
    · intro a w K hb ht hd hK
      have hbw := Lib.hid (below_tr RB6.out hb); clear hb
      have hx5 := (ht 5 rfl).trans rfl
      have es5 : a.tmps.getD 5 undef = _ := getD_of hx5; clear hx5
      clear ht hd
      have HK := Lib.hid hK; clear hK
      refine wpOp_step (by simp only [List.getElem?_toArray, List.getElem?_cons_succ, List.getElem?_cons_zero]; rfl) (fun K' hK' => ?_)
      have HK' := Lib.hid hK'; clear hK'
      go_simp
      exact HK'.out _ _ (HK.out _ _ below_rf rfl)
    · intro a w K hb ht hd hK
      have hbw := Lib.hid (below_tr RB6.out hb); clear hb
      have hx1 := (ht 1 rfl).trans rfl
      have es1 : a.tmps.getD 1 undef = _ := getD_of hx1; clear hx1
      obtain ⟨x36, hx36, hp36⟩ := hd 0 _ rfl (by kernel_rfl)
      obtain rfl := hp36
      have es36 : a.tmps.getD 36 undef = _ := getD_of hx36; clear hx36
      clear ht hd
      have HK := Lib.hid hK; clear hK
      refine wpOp_step (by simp only [List.getElem?_toArray, List.getElem?_cons_succ, List.getElem?_cons_zero]; rfl) (fun K' hK' => ?_)
      have HK' := Lib.hid hK'; clear hK'
      go_simp
      exact HK'.out _ _ (HK.out _ _ below_rf rfl)
    · intro a w K hb ht hd hK
      have hbw := Lib.hid (below_tr RB6.out hb); clear hb
      obtain ⟨x37, hx37, hp37⟩ := hd 1 _ rfl (by kernel_rfl)
      obtain rfl := hp37
      have es37 : a.tmps.getD 37 undef = _ := getD_of hx37; clear hx37
      clear ht hd
      have zc0 := (FQ_6.out.below hbw.out (Nat.le_refl _)).cell 0 (v := .int .i64 (2 * p0)) rfl
      have zc1 := (FQ_6.out.below hbw.out (Nat.le_refl _)).cell 1 (v := .int .i64 (2 * p1)) rfl
      have HK := Lib.hid hK; clear hK
      refine wpOp_step (by simp only [List.getElem?_toArray, List.getElem?_cons_succ, List.getElem?_cons_zero]; rfl) (fun K' hK' => ?_)
      have HK' := Lib.hid hK'; clear hK'
      go_simp
      exact HK'.out _ _ (HK.out _ _ below_rf rfl)
    · intro a w K hb ht hd hK
      have hbw := Lib.hid (below_tr RB6.out hb); clear hb
      have hx5 := (ht 5 rfl).trans rfl
      have es5 : a.tmps.getD 5 undef = _ := getD_of hx5; clear hx5
      clear ht hd
      have HK := Lib.hid hK; clear hK
      refine wpOp_step (by simp only [List.getElem?_toArray, List.getElem?_cons_succ, List.getElem?_cons_zero]; rfl) (fun K' hK' => ?_)
      have HK' := Lib.hid hK'; clear hK'
      go_simp
      exact HK'.out _ _ (HK.out _ _ below_rf rfl)
    · intro a w K hb ht hd hK
      have hbw := Lib.hid (below_tr RB6.out hb); clear hb
      obtain ⟨x39, hx39, hp39⟩ := hd 3 _ rfl (by kernel_rfl)
      obtain rfl := hp39
      have es39 : a.tmps.getD 39 undef = _ := getD_of hx39; clear hx39
      clear ht hd
      have HK := Lib.hid hK; clear hK
      refine wpOp_step (by simp only [List.getElem?_toArray, List.getElem?_cons_succ, List.getElem?_cons_zero]; rfl) (fun K' hK' => ?_)
      have HK' := Lib.hid hK'; clear hK'
      go_simp
      exact HK'.out _ _ (HK.out _ _ below_rf rfl)
    · intro a w K hb ht hd hK
      have hbw := Lib.hid (below_tr RB6.out hb); clear hb
      obtain ⟨x40, hx40, hp40⟩ := hd 4 _ rfl (by kernel_rfl)
      obtain rfl := hp40
      have es40 : a.tmps.getD 40 undef = _ := getD_of hx40; clear hx40
      clear ht hd
      have HK := Lib.hid hK; clear hK
      refine wpOp_step (by simp only [List.getElem?_toArray, List.getElem?_cons_succ, List.getElem?_cons_zero]; rfl) (fun K' hK' => ?_)
      have HK' := Lib.hid hK'; clear hK'
      go_simp
      exact HK'.out _ _ (HK.out _ _ below_rf rfl)
    · intro a w K hb ht hd hK
      have hbw := Lib.hid (below_tr RB6.out hb); clear hb
      have hx1 := (ht 1 rfl).trans rfl
      have es1 : a.tmps.getD 1 undef = _ := getD_of hx1; clear hx1
      obtain ⟨x41, hx41, hp41⟩ := hd 5 _ rfl (by kernel_rfl)
      obtain rfl := hp41
      have es41 : a.tmps.getD 41 undef = _ := getD_of hx41; clear hx41
      clear ht hd
      have HK := Lib.hid hK; clear hK
      refine wpOp_step (by simp only [List.getElem?_toArray, List.getElem?_cons_succ, List.getElem?_cons_zero]; rfl) (fun K' hK' => ?_)
      have HK' := Lib.hid hK'; clear hK'
      go_simp
      exact HK'.out _ _ (HK.out _ _ below_rf rfl)
    · intro a w K hb ht hd hK
      have hbw := Lib.hid (below_tr RB6.out hb); clear hb
      obtain ⟨x42, hx42, hp42⟩ := hd 6 _ rfl (by kernel_rfl)
      obtain rfl := hp42
      have es42 : a.tmps.getD 42 undef = _ := getD_of hx42; clear hx42
      clear ht hd
      have zc0 := (FQ_6.out.below hbw.out (Nat.le_refl _)).cell 2 (v := .int .i64 (2 * p2)) rfl
      have zc1 := (FQ_6.out.below hbw.out (Nat.le_refl _)).cell 3 (v := .int .i64 (2 * p3)) rfl
      have HK := Lib.hid hK; clear hK
      refine wpOp_step (by simp only [List.getElem?_toArray, List.getElem?_cons_succ, List.getElem?_cons_zero]; rfl) (fun K' hK' => ?_)
      have HK' := Lib.hid hK'; clear hK'
      go_simp
      exact HK'.out _ _ (HK.out _ _ below_rf rfl)
  · intro w7 X B hb hv hx hd
    simp only [List.foldl_cons, List.foldl_nil, Act.put, List.setIfInBounds_toArray, List.set_cons_zero, List.set_cons_succ, ptrTo]
    obtain ⟨hv0, hv1, hv2, hv3, hv4, hv5, hv6, hv7, -⟩ := hv
    obtain ⟨⟨hn6, cs6, hx6, hg6⟩, ⟨hn7, cs7, hx7, hg7⟩, -⟩ := hx
    clear hd
    have hV0 : (fun x _ => x = .int .i64 0) (X 36) w7 := hv0; clear hv0; have hv0 := hV0; clear hV0; generalize X 36 = X36 at *
    have hV1 : (fun x _ => x = .pointer (some ⟨w.heap.size, 0, none⟩)) (X 37) w7 := hv1; clear hv1; have hv1 := hV1; clear hV1; generalize X 37 = X37 at *
    have hV2 : (fun x _ => x = .agg #[.int .i64 (2 * p0), .int .i64 (2 * p1)]) (X 38) w7 := hv2; clear hv2; have hv2 := hV2; clear hV2; generalize X 38 = X38 at *
    have hV3 : (fun x _ => x = .int .i64 0) (X 39) w7 := hv3; clear hv3; have hv3 := hV3; clear hV3; generalize X 39 = X39 at *
    have hV4 : (fun x _ => x = .int .i64 1) (X 40) w7 := hv4; clear hv4; have hv4 := hV4; clear hV4; generalize X 40 = X40 at *
    have hV5 : (fun x _ => x = .int .i64 1) (X 41) w7 := hv5; clear hv5; have hv5 := hV5; clear hV5; generalize X 41 = X41 at *
    have hV6 : (fun x _ => x = .pointer (some ⟨w.heap.size, 2, none⟩)) (X 42) w7 := hv6; clear hv6; have hv6 := hV6; clear hV6; generalize X 42 = X42 at *
    have hV7 : (fun x _ => x = .agg #[.int .i64 (2 * p2), .int .i64 (2 * p3)]) (X 43) w7 := hv7; clear hv7; have hv7 := hV7; clear hV7; generalize X 43 = X43 at *
    have hx6' : Bx w7 (B 6) cs6 28 := hx6; clear hx6; generalize B 6 = b6 at *
    have hx7' : Bx w7 (B 7) cs7 28 := hx7; clear hx7; generalize B 7 = b7 at *
    have hn6' : w6.heap.size ≤ b6 := hn6; clear hn6
    have hn7' : w6.heap.size ≤ b7 := hn7; clear hn7
    obtain rfl := hv0
    obtain rfl := hv1
    obtain rfl := hv2
    obtain rfl := hv3
    obtain rfl := hv4
    obtain rfl := hv5
    obtain rfl := hv6
    obtain rfl := hv7
    obtain rfl := hg6
    obtain rfl := hg7
    have RC := Lib.hid (below_tr RB6.out hb); clear hb
    have FT_7 := Lib.hid (FT_6.out.below RC.out (Nat.le_refl _))
    have FQ_7 := Lib.hid (FQ_6.out.below RC.out (Nat.le_refl _))
    have HB7 := Lib.hid (HB6.out.trans (RC.out.mono HB6.out.size))
    clear HB6 FT_6 FQ_6 RC RB6
    have FE0 := Lib.hid hx6'; clear hx6'
    have FG0 := Lib.hid hx7'; clear hx7'
    have vE00 := FE0.out.cell 0 (v := .int .i64 (2 * p0)) rfl
    have vE01 := FE0.out.cell 1 (v := .int .i64 (2 * p1)) rfl
    have vG00 := FG0.out.cell 0 (v := .int .i64 (2 * p2)) rfl
    have vG01 := FG0.out.cell 1 (v := .int .i64 (2 * p3)) rfl
    have tt0 := T0.out; have vv0 := V0.out
    have tt1 := T1.out; have vv1 := V1.out
    have tt2 := T2.out; have vv2 := V2.out
    have tt3 := T3.out; have vv3 := V3.out
    have ssx := SX0.out; have ssy := SY0.out
    go_wp2_with fail
    refine (disc_Locate3 _ 3 (2 * p0) (2 * p1) (2 * p2) (2 * p3) (2 * p4) (2 * p5) (p0 + p2) (p1 + p3) hq0 _ FT_7.out FQ_7.out.t3).mono ?_
    rintro e w8 ⟨rfl, B⟩
    have HB8 := Lib.hid (HB7.out.trans (B.mono HB7.out.size))
    have FT_8 := Lib.hid (FT_7.out.below B (Nat.le_refl _))
    have FQ_8 := Lib.hid (FQ_7.out.below B (Nat.le_refl _))
    have FE0_8 := Lib.hid (FE0.out.below B (Nat.le_refl _))
    have FG0_8 := Lib.hid (FG0.out.below B (Nat.le_refl _))
    clear B  HB7 FT_7 FQ_7 FE0 FG0
    rw [HM0.out]
    clear vE00 vE01 vG00 vG01 tt0 vv0 tt1 vv1 tt2 vv2 tt3 vv3 ssx ssy
    go_wp2_with fail
    rw [rounds_succ]
    go_upto_region 12 with (fail)
    have RB8 := Lib.hid (below_drew0 w8)
    refine wp_region_held_drew (S := fun _ => True) (by kernel_rfl) trivial (fun _ => ?_)
    refine wpAnyH_gen [(⟨8, 10, 6, 28, #[.int .i64 0, .int .i64 0], []⟩, fun cs _ => cs = #[.int .i64 (2 * p2), .int .i64 (2 * p3)]), (⟨9, 11, 7, 28, #[.int .i64 0, .int .i64 0], []⟩, fun cs _ => cs = #[.int .i64 (2 * p4), .int .i64 (2 * p5)])] [⟨0, 36, fun x _ => x = .int .i64 1⟩, ⟨1, 37, fun x _ => x = .pointer (some ⟨w.heap.size, 2, none⟩)⟩, ⟨2, 38, fun x _ => x = .agg #[.int .i64 (2 * p2), .int .i64 (2 * p3)]⟩, ⟨3, 39, fun x _ => x = .int .i64 1⟩, ⟨4, 40, fun x _ => x = .int .i64 2⟩, ⟨5, 41, fun x _ => x = .int .i64 2⟩, ⟨6, 42, fun x _ => x = .pointer (some ⟨w.heap.size, 4, none⟩)⟩, ⟨7, 43, fun x _ => x = .agg #[.int .i64 (2 * p4), .int .i64 (2 * p5)]⟩] (by kernel_rfl) (by kernel_rfl) (fun _ => trivial) ?_ ?_ ?_ ?_ ?_ ?_
    · refine ⟨?_, ?_, trivial⟩
      all_goals exact ⟨fun cs => by (dsimp only; repeat (first | exact Stay.const _ | exact Stay.sl _ _ _ _ | exact Stay.nm _ _ _ _ | exact Stay.bx _ _ _ _ | refine Stay.ex fun _ => ?_ | refine Stay.and ?_ ?_)), by dsimp only; decide, by simp [NoU]⟩
    · refine ⟨?_, ?_, ?_, ?_, ?_, ?_, ?_, ?_, trivial⟩
      all_goals (intro x; (dsimp only; repeat (first | exact Stay.const _ | exact Stay.sl _ _ _ _ | exact Stay.nm _ _ _ _ | exact Stay.bx _ _ _ _ | refine Stay.ex fun _ => ?_ | refine Stay.and ?_ ?_)))
    · refine ⟨?_, ?_, trivial⟩
      all_goals (intro a w K h; refine wpOp_step (by simp only [List.getElem?_toArray, List.getElem?_cons_succ, List.getElem?_cons_zero]; rfl) (fun K' hK => ?_); go_simp; exact hK _ _ h)
    · refine ⟨?_, ?_, trivial⟩
      · intro a w B K ht hd hs hb hK
        obtain ⟨x38, hx38, hp38⟩ := hd 2 _ rfl (by kernel_rfl)
        obtain rfl := hp38
        have es38 : a.tmps.getD 38 undef = _ := getD_of hx38; clear hx38
        clear ht hd
        have zc0 := hb.cell 0 (v := .int .i64 0) rfl; have zf0 := hb.free 0
        have zc1 := hb.cell 1 (v := .int .i64 0) rfl; have zf1 := hb.free 1
        have HK := Lib.hid (hK [.int .i64 (2 * p2), .int .i64 (2 * p3)] rfl (by simp [NoU]) rfl); clear hK hb
        simp only [ptrTo] at hs
        have esB : a.tmps.getD 6 undef = _ := getD_of hs; clear hs
        refine wpOp_step (by simp only [List.getElem?_toArray, List.getElem?_cons_succ, List.getElem?_cons_zero]; rfl) (fun K' hK' => ?_)
        go_simp
        exact hK' _ _ HK.out
      · intro a w B K ht hd hs hb hK
        obtain ⟨x43, hx43, hp43⟩ := hd 7 _ rfl (by kernel_rfl)
        obtain rfl := hp43
        have es43 : a.tmps.getD 43 undef = _ := getD_of hx43; clear hx43
        clear ht hd
        have zc0 := hb.cell 0 (v := .int .i64 0) rfl; have zf0 := hb.free 0
        have zc1 := hb.cell 1 (v := .int .i64 0) rfl; have zf1 := hb.free 1
        have HK := Lib.hid (hK [.int .i64 (2 * p4), .int .i64 (2 * p5)] rfl (by simp [NoU]) rfl); clear hK hb
        simp only [ptrTo] at hs
        have esB : a.tmps.getD 7 undef = _ := getD_of hs; clear hs
        refine wpOp_step (by simp only [List.getElem?_toArray, List.getElem?_cons_succ, List.getElem?_cons_zero]; rfl) (fun K' hK' => ?_)
        go_simp
        exact hK' _ _ HK.out
    · refine ⟨?_, ?_, ?_, ?_, ?_, ?_, ?_, ?_, trivial⟩
      · intro a w K hb ht hd hK
        have hbw := Lib.hid (below_tr RB8.out hb); clear hb
        have hx5 := (ht 5 rfl).trans rfl
        have es5 : a.tmps.getD 5 undef = _ := getD_of hx5; clear hx5
        clear ht hd
        have HK := Lib.hid hK; clear hK
        refine wpOp_step (by simp only [List.getElem?_toArray, List.getElem?_cons_succ, List.getElem?_cons_zero]; rfl) (fun K' hK' => ?_)
        have HK' := Lib.hid hK'; clear hK'
        go_simp
        exact HK'.out _ _ (HK.out _ _ below_rf rfl)
      · intro a w K hb ht hd hK
        have hbw := Lib.hid (below_tr RB8.out hb); clear hb
        have hx1 := (ht 1 rfl).trans rfl
        have es1 : a.tmps.getD 1 undef = _ := getD_of hx1; clear hx1
        obtain ⟨x36, hx36, hp36⟩ := hd 0 _ rfl (by kernel_rfl)
        obtain rfl := hp36
        have es36 : a.tmps.getD 36 undef = _ := getD_of hx36; clear hx36
        clear ht hd
        have HK := Lib.hid hK; clear hK
        refine wpOp_step (by simp only [List.getElem?_toArray, List.getElem?_cons_succ, List.getElem?_cons_zero]; rfl) (fun K' hK' => ?_)
        have HK' := Lib.hid hK'; clear hK'
        go_simp
        exact HK'.out _ _ (HK.out _ _ below_rf rfl)
      · intro a w K hb ht hd hK
        have hbw := Lib.hid (below_tr RB8.out hb); clear hb
        obtain ⟨x37, hx37, hp37⟩ := hd 1 _ rfl (by kernel_rfl)
        obtain rfl := hp37
        have es37 : a.tmps.getD 37 undef = _ := getD_of hx37; clear hx37
        clear ht hd
        have zc0 := (FQ_8.out.below hbw.out (Nat.le_refl _)).cell 2 (v := .int .i64 (2 * p2)) rfl
        have zc1 := (FQ_8.out.below hbw.out (Nat.le_refl _)).cell 3 (v := .int .i64 (2 * p3)) rfl
        have HK := Lib.hid hK; clear hK
        refine wpOp_step (by simp only [List.getElem?_toArray, List.getElem?_cons_succ, List.getElem?_cons_zero]; rfl) (fun K' hK' => ?_)
        have HK' := Lib.hid hK'; clear hK'
        go_simp
        exact HK'.out _ _ (HK.out _ _ below_rf rfl)
      · intro a w K hb ht hd hK
        have hbw := Lib.hid (below_tr RB8.out hb); clear hb
        have hx5 := (ht 5 rfl).trans rfl
        have es5 : a.tmps.getD 5 undef = _ := getD_of hx5; clear hx5
        clear ht hd
        have HK := Lib.hid hK; clear hK
        refine wpOp_step (by simp only [List.getElem?_toArray, List.getElem?_cons_succ, List.getElem?_cons_zero]; rfl) (fun K' hK' => ?_)
        have HK' := Lib.hid hK'; clear hK'
        go_simp
        exact HK'.out _ _ (HK.out _ _ below_rf rfl)
      · intro a w K hb ht hd hK
        have hbw := Lib.hid (below_tr RB8.out hb); clear hb
        obtain ⟨x39, hx39, hp39⟩ := hd 3 _ rfl (by kernel_rfl)
        obtain rfl := hp39
        have es39 : a.tmps.getD 39 undef = _ := getD_of hx39; clear hx39
        clear ht hd
        have HK := Lib.hid hK; clear hK
        refine wpOp_step (by simp only [List.getElem?_toArray, List.getElem?_cons_succ, List.getElem?_cons_zero]; rfl) (fun K' hK' => ?_)
        have HK' := Lib.hid hK'; clear hK'
        go_simp
        exact HK'.out _ _ (HK.out _ _ below_rf rfl)
      · intro a w K hb ht hd hK
        have hbw := Lib.hid (below_tr RB8.out hb); clear hb
        obtain ⟨x40, hx40, hp40⟩ := hd 4 _ rfl (by kernel_rfl)
        obtain rfl := hp40
        have es40 : a.tmps.getD 40 undef = _ := getD_of hx40; clear hx40
        clear ht hd
        have HK := Lib.hid hK; clear hK
        refine wpOp_step (by simp only [List.getElem?_toArray, List.getElem?_cons_succ, List.getElem?_cons_zero]; rfl) (fun K' hK' => ?_)
        have HK' := Lib.hid hK'; clear hK'
        go_simp
        exact HK'.out _ _ (HK.out _ _ below_rf rfl)
      · intro a w K hb ht hd hK
        have hbw := Lib.hid (below_tr RB8.out hb); clear hb
        have hx1 := (ht 1 rfl).trans rfl
        have es1 : a.tmps.getD 1 undef = _ := getD_of hx1; clear hx1
        obtain ⟨x41, hx41, hp41⟩ := hd 5 _ rfl (by kernel_rfl)
        obtain rfl := hp41
        have es41 : a.tmps.getD 41 undef = _ := getD_of hx41; clear hx41
        clear ht hd
        have HK := Lib.hid hK; clear hK
        refine wpOp_step (by simp only [List.getElem?_toArray, List.getElem?_cons_succ, List.getElem?_cons_zero]; rfl) (fun K' hK' => ?_)
        have HK' := Lib.hid hK'; clear hK'
        go_simp
        exact HK'.out _ _ (HK.out _ _ below_rf rfl)
      · intro a w K hb ht hd hK
        have hbw := Lib.hid (below_tr RB8.out hb); clear hb
        obtain ⟨x42, hx42, hp42⟩ := hd 6 _ rfl (by kernel_rfl)
        obtain rfl := hp42
        have es42 : a.tmps.getD 42 undef = _ := getD_of hx42; clear hx42
        clear ht hd
        have zc0 := (FQ_8.out.below hbw.out (Nat.le_refl _)).cell 4 (v := .int .i64 (2 * p4)) rfl
        have zc1 := (FQ_8.out.below hbw.out (Nat.le_refl _)).cell 5 (v := .int .i64 (2 * p5)) rfl
        have HK := Lib.hid hK; clear hK
        refine wpOp_step (by simp only [List.getElem?_toArray, List.getElem?_cons_succ, List.getElem?_cons_zero]; rfl) (fun K' hK' => ?_)
        have HK' := Lib.hid hK'; clear hK'
        go_simp
        exact HK'.out _ _ (HK.out _ _ below_rf rfl)
    · intro w9 X B hb hv hx hd
      simp only [List.foldl_cons, List.foldl_nil, Act.put, List.setIfInBounds_toArray, List.set_cons_zero, List.set_cons_succ, ptrTo]
      obtain ⟨hv0, hv1, hv2, hv3, hv4, hv5, hv6, hv7, -⟩ := hv
      obtain ⟨⟨hn6, cs6, hx6, hg6⟩, ⟨hn7, cs7, hx7, hg7⟩, -⟩ := hx
      clear hd
      have hV0 : (fun x _ => x = .int .i64 1) (X 36) w9 := hv0; clear hv0; have hv0 := hV0; clear hV0; generalize X 36 = X36 at *
      have hV1 : (fun x _ => x = .pointer (some ⟨w.heap.size, 2, none⟩)) (X 37) w9 := hv1; clear hv1; have hv1 := hV1; clear hV1; generalize X 37 = X37 at *
      have hV2 : (fun x _ => x = .agg #[.int .i64 (2 * p2), .int .i64 (2 * p3)]) (X 38) w9 := hv2; clear hv2; have hv2 := hV2; clear hV2; generalize X 38 = X38 at *
      have hV3 : (fun x _ => x = .int .i64 1) (X 39) w9 := hv3; clear hv3; have hv3 := hV3; clear hV3; generalize X 39 = X39 at *
      have hV4 : (fun x _ => x = .int .i64 2) (X 40) w9 := hv4; clear hv4; have hv4 := hV4; clear hV4; generalize X 40 = X40 at *
      have hV5 : (fun x _ => x = .int .i64 2) (X 41) w9 := hv5; clear hv5; have hv5 := hV5; clear hV5; generalize X 41 = X41 at *
      have hV6 : (fun x _ => x = .pointer (some ⟨w.heap.size, 4, none⟩)) (X 42) w9 := hv6; clear hv6; have hv6 := hV6; clear hV6; generalize X 42 = X42 at *
      have hV7 : (fun x _ => x = .agg #[.int .i64 (2 * p4), .int .i64 (2 * p5)]) (X 43) w9 := hv7; clear hv7; have hv7 := hV7; clear hV7; generalize X 43 = X43 at *
      have hx6' : Bx w9 (B 6) cs6 28 := hx6; clear hx6; generalize B 6 = b6 at *
      have hx7' : Bx w9 (B 7) cs7 28 := hx7; clear hx7; generalize B 7 = b7 at *
      have hn6' : w8.heap.size ≤ b6 := hn6; clear hn6
      have hn7' : w8.heap.size ≤ b7 := hn7; clear hn7
      obtain rfl := hv0
      obtain rfl := hv1
      obtain rfl := hv2
      obtain rfl := hv3
      obtain rfl := hv4
      obtain rfl := hv5
      obtain rfl := hv6
      obtain rfl := hv7
      obtain rfl := hg6
      obtain rfl := hg7
      have RC := Lib.hid (below_tr RB8.out hb); clear hb
      have FT_9 := Lib.hid (FT_8.out.below RC.out (Nat.le_refl _))
      have FQ_9 := Lib.hid (FQ_8.out.below RC.out (Nat.le_refl _))
      have HB9 := Lib.hid (HB8.out.trans (RC.out.mono HB8.out.size))
      clear HB8 FT_8 FQ_8 RC RB8
      have FE1 := Lib.hid hx6'; clear hx6'
      have FG1 := Lib.hid hx7'; clear hx7'
      have vE10 := FE1.out.cell 0 (v := .int .i64 (2 * p2)) rfl
      have vE11 := FE1.out.cell 1 (v := .int .i64 (2 * p3)) rfl
      have vG10 := FG1.out.cell 0 (v := .int .i64 (2 * p4)) rfl
      have vG11 := FG1.out.cell 1 (v := .int .i64 (2 * p5)) rfl
      have tt2 := T2.out; have vv2 := V2.out
      have tt3 := T3.out; have vv3 := V3.out
      have tt4 := T4.out; have vv4 := V4.out
      have tt5 := T5.out; have vv5 := V5.out
      have ssx := SX1.out; have ssy := SY1.out
      go_wp2_with fail
      refine (disc_Locate3 _ 3 (2 * p0) (2 * p1) (2 * p2) (2 * p3) (2 * p4) (2 * p5) (p2 + p4) (p3 + p5) hq1 _ FT_9.out FQ_9.out.t3).mono ?_
      rintro e w10 ⟨rfl, B⟩
      have HB10 := Lib.hid (HB9.out.trans (B.mono HB9.out.size))
      have FT_10 := Lib.hid (FT_9.out.below B (Nat.le_refl _))
      have FQ_10 := Lib.hid (FQ_9.out.below B (Nat.le_refl _))
      have FE1_10 := Lib.hid (FE1.out.below B (Nat.le_refl _))
      have FG1_10 := Lib.hid (FG1.out.below B (Nat.le_refl _))
      clear B  HB9 FT_9 FQ_9 FE1 FG1
      rw [HM1.out]
      clear vE10 vE11 vG10 vG11 tt2 vv2 tt3 vv3 tt4 vv4 tt5 vv5 ssx ssy
      go_wp2_with fail
      rw [rounds_succ]
      go_upto_region 12 with (fail)
      have RB10 := Lib.hid (below_drew0 w10)
      refine wp_region_held_drew (S := fun _ => True) (by kernel_rfl) trivial (fun _ => ?_)
      refine wpAnyH_gen [(⟨8, 10, 6, 28, #[.int .i64 0, .int .i64 0], []⟩, fun cs _ => cs = #[.int .i64 (2 * p4), .int .i64 (2 * p5)]), (⟨9, 11, 7, 28, #[.int .i64 0, .int .i64 0], []⟩, fun cs _ => cs = #[.int .i64 (2 * p0), .int .i64 (2 * p1)])] [⟨0, 36, fun x _ => x = .int .i64 2⟩, ⟨1, 37, fun x _ => x = .pointer (some ⟨w.heap.size, 4, none⟩)⟩, ⟨2, 38, fun x _ => x = .agg #[.int .i64 (2 * p4), .int .i64 (2 * p5)]⟩, ⟨3, 39, fun x _ => x = .int .i64 2⟩, ⟨4, 40, fun x _ => x = .int .i64 3⟩, ⟨5, 41, fun x _ => x = .int .i64 0⟩, ⟨6, 42, fun x _ => x = .pointer (some ⟨w.heap.size, 0, none⟩)⟩, ⟨7, 43, fun x _ => x = .agg #[.int .i64 (2 * p0), .int .i64 (2 * p1)]⟩] (by kernel_rfl) (by kernel_rfl) (fun _ => trivial) ?_ ?_ ?_ ?_ ?_ ?_
      · refine ⟨?_, ?_, trivial⟩
        all_goals exact ⟨fun cs => by (dsimp only; repeat (first | exact Stay.const _ | exact Stay.sl _ _ _ _ | exact Stay.nm _ _ _ _ | exact Stay.bx _ _ _ _ | refine Stay.ex fun _ => ?_ | refine Stay.and ?_ ?_)), by dsimp only; decide, by simp [NoU]⟩
      · refine ⟨?_, ?_, ?_, ?_, ?_, ?_, ?_, ?_, trivial⟩
        all_goals (intro x; (dsimp only; repeat (first | exact Stay.const _ | exact Stay.sl _ _ _ _ | exact Stay.nm _ _ _ _ | exact Stay.bx _ _ _ _ | refine Stay.ex fun _ => ?_ | refine Stay.and ?_ ?_)))
      · refine ⟨?_, ?_, trivial⟩
        all_goals (intro a w K h; refine wpOp_step (by simp only [List.getElem?_toArray, List.getElem?_cons_succ, List.getElem?_cons_zero]; rfl) (fun K' hK => ?_); go_simp; exact hK _ _ h)
      · refine ⟨?_, ?_, trivial⟩
        · intro a w B K ht hd hs hb hK
          obtain ⟨x38, hx38, hp38⟩ := hd 2 _ rfl (by kernel_rfl)
          obtain rfl := hp38
          have es38 : a.tmps.getD 38 undef = _ := getD_of hx38; clear hx38
          clear ht hd
          have zc0 := hb.cell 0 (v := .int .i64 0) rfl; have zf0 := hb.free 0
          have zc1 := hb.cell 1 (v := .int .i64 0) rfl; have zf1 := hb.free 1
          have HK := Lib.hid (hK [.int .i64 (2 * p4), .int .i64 (2 * p5)] rfl (by simp [NoU]) rfl); clear hK hb
          simp only [ptrTo] at hs
          have esB : a.tmps.getD 6 undef = _ := getD_of hs; clear hs
          refine wpOp_step (by simp only [List.getElem?_toArray, List.getElem?_cons_succ, List.getElem?_cons_zero]; rfl) (fun K' hK' => ?_)
          go_simp
          exact hK' _ _ HK.out
        · intro a w B K ht hd hs hb hK
          obtain ⟨x43, hx43, hp43⟩ := hd 7 _ rfl (by kernel_rfl)
          obtain rfl := hp43
          have es43 : a.tmps.getD 43 undef = _ := getD_of hx43; clear hx43
          clear ht hd
          have zc0 := hb.cell 0 (v := .int .i64 0) rfl; have zf0 := hb.free 0
          have zc1 := hb.cell 1 (v := .int .i64 0) rfl; have zf1 := hb.free 1
          have HK := Lib.hid (hK [.int .i64 (2 * p0), .int .i64 (2 * p1)] rfl (by simp [NoU]) rfl); clear hK hb
          simp only [ptrTo] at hs
          have esB : a.tmps.getD 7 undef = _ := getD_of hs; clear hs
          refine wpOp_step (by simp only [List.getElem?_toArray, List.getElem?_cons_succ, List.getElem?_cons_zero]; rfl) (fun K' hK' => ?_)
          go_simp
          exact hK' _ _ HK.out
      · refine ⟨?_, ?_, ?_, ?_, ?_, ?_, ?_, ?_, trivial⟩
        · intro a w K hb ht hd hK
          have hbw := Lib.hid (below_tr RB10.out hb); clear hb
          have hx5 := (ht 5 rfl).trans rfl
          have es5 : a.tmps.getD 5 undef = _ := getD_of hx5; clear hx5
          clear ht hd
          have HK := Lib.hid hK; clear hK
          refine wpOp_step (by simp only [List.getElem?_toArray, List.getElem?_cons_succ, List.getElem?_cons_zero]; rfl) (fun K' hK' => ?_)
          have HK' := Lib.hid hK'; clear hK'
          go_simp
          exact HK'.out _ _ (HK.out _ _ below_rf rfl)
        · intro a w K hb ht hd hK
          have hbw := Lib.hid (below_tr RB10.out hb); clear hb
          have hx1 := (ht 1 rfl).trans rfl
          have es1 : a.tmps.getD 1 undef = _ := getD_of hx1; clear hx1
          obtain ⟨x36, hx36, hp36⟩ := hd 0 _ rfl (by kernel_rfl)
          obtain rfl := hp36
          have es36 : a.tmps.getD 36 undef = _ := getD_of hx36; clear hx36
          clear ht hd
          have HK := Lib.hid hK; clear hK
          refine wpOp_step (by simp only [List.getElem?_toArray, List.getElem?_cons_succ, List.getElem?_cons_zero]; rfl) (fun K' hK' => ?_)
          have HK' := Lib.hid hK'; clear hK'
          go_simp
          exact HK'.out _ _ (HK.out _ _ below_rf rfl)
        · intro a w K hb ht hd hK
          have hbw := Lib.hid (below_tr RB10.out hb); clear hb
          obtain ⟨x37, hx37, hp37⟩ := hd 1 _ rfl (by kernel_rfl)
          obtain rfl := hp37
          have es37 : a.tmps.getD 37 undef = _ := getD_of hx37; clear hx37
          clear ht hd
          have zc0 := (FQ_10.out.below hbw.out (Nat.le_refl _)).cell 4 (v := .int .i64 (2 * p4)) rfl
          have zc1 := (FQ_10.out.below hbw.out (Nat.le_refl _)).cell 5 (v := .int .i64 (2 * p5)) rfl
          have HK := Lib.hid hK; clear hK
          refine wpOp_step (by simp only [List.getElem?_toArray, List.getElem?_cons_succ, List.getElem?_cons_zero]; rfl) (fun K' hK' => ?_)
          have HK' := Lib.hid hK'; clear hK'
          go_simp
          exact HK'.out _ _ (HK.out _ _ below_rf rfl)
        · intro a w K hb ht hd hK
          have hbw := Lib.hid (below_tr RB10.out hb); clear hb
          have hx5 := (ht 5 rfl).trans rfl
          have es5 : a.tmps.getD 5 undef = _ := getD_of hx5; clear hx5
          clear ht hd
          have HK := Lib.hid hK; clear hK
          refine wpOp_step (by simp only [List.getElem?_toArray, List.getElem?_cons_succ, List.getElem?_cons_zero]; rfl) (fun K' hK' => ?_)
          have HK' := Lib.hid hK'; clear hK'
          go_simp
          exact HK'.out _ _ (HK.out _ _ below_rf rfl)
        · intro a w K hb ht hd hK
          have hbw := Lib.hid (below_tr RB10.out hb); clear hb
          obtain ⟨x39, hx39, hp39⟩ := hd 3 _ rfl (by kernel_rfl)
          obtain rfl := hp39
          have es39 : a.tmps.getD 39 undef = _ := getD_of hx39; clear hx39
          clear ht hd
          have HK := Lib.hid hK; clear hK
          refine wpOp_step (by simp only [List.getElem?_toArray, List.getElem?_cons_succ, List.getElem?_cons_zero]; rfl) (fun K' hK' => ?_)
          have HK' := Lib.hid hK'; clear hK'
          go_simp
          exact HK'.out _ _ (HK.out _ _ below_rf rfl)
        · intro a w K hb ht hd hK
          have hbw := Lib.hid (below_tr RB10.out hb); clear hb
          obtain ⟨x40, hx40, hp40⟩ := hd 4 _ rfl (by kernel_rfl)
          obtain rfl := hp40
          have es40 : a.tmps.getD 40 undef = _ := getD_of hx40; clear hx40
          clear ht hd
          have HK := Lib.hid hK; clear hK
          refine wpOp_step (by simp only [List.getElem?_toArray, List.getElem?_cons_succ, List.getElem?_cons_zero]; rfl) (fun K' hK' => ?_)
          have HK' := Lib.hid hK'; clear hK'
          go_simp
          exact HK'.out _ _ (HK.out _ _ below_rf rfl)
        · intro a w K hb ht hd hK
          have hbw := Lib.hid (below_tr RB10.out hb); clear hb
          have hx1 := (ht 1 rfl).trans rfl
          have es1 : a.tmps.getD 1 undef = _ := getD_of hx1; clear hx1
          obtain ⟨x41, hx41, hp41⟩ := hd 5 _ rfl (by kernel_rfl)
          obtain rfl := hp41
          have es41 : a.tmps.getD 41 undef = _ := getD_of hx41; clear hx41
          clear ht hd
          have HK := Lib.hid hK; clear hK
          refine wpOp_step (by simp only [List.getElem?_toArray, List.getElem?_cons_succ, List.getElem?_cons_zero]; rfl) (fun K' hK' => ?_)
          have HK' := Lib.hid hK'; clear hK'
          go_simp
          exact HK'.out _ _ (HK.out _ _ below_rf rfl)
        · intro a w K hb ht hd hK
          have hbw := Lib.hid (below_tr RB10.out hb); clear hb
          obtain ⟨x42, hx42, hp42⟩ := hd 6 _ rfl (by kernel_rfl)
          obtain rfl := hp42
          have es42 : a.tmps.getD 42 undef = _ := getD_of hx42; clear hx42
          clear ht hd
          have zc0 := (FQ_10.out.below hbw.out (Nat.le_refl _)).cell 0 (v := .int .i64 (2 * p0)) rfl
          have zc1 := (FQ_10.out.below hbw.out (Nat.le_refl _)).cell 1 (v := .int .i64 (2 * p1)) rfl
          have HK := Lib.hid hK; clear hK
          refine wpOp_step (by simp only [List.getElem?_toArray, List.getElem?_cons_succ, List.getElem?_cons_zero]; rfl) (fun K' hK' => ?_)
          have HK' := Lib.hid hK'; clear hK'
          go_simp
          exact HK'.out _ _ (HK.out _ _ below_rf rfl)
      · intro w11 X B hb hv hx hd
        simp only [List.foldl_cons, List.foldl_nil, Act.put, List.setIfInBounds_toArray, List.set_cons_zero, List.set_cons_succ, ptrTo]
        obtain ⟨hv0, hv1, hv2, hv3, hv4, hv5, hv6, hv7, -⟩ := hv
        obtain ⟨⟨hn6, cs6, hx6, hg6⟩, ⟨hn7, cs7, hx7, hg7⟩, -⟩ := hx
        clear hd
        have hV0 : (fun x _ => x = .int .i64 2) (X 36) w11 := hv0; clear hv0; have hv0 := hV0; clear hV0; generalize X 36 = X36 at *
        have hV1 : (fun x _ => x = .pointer (some ⟨w.heap.size, 4, none⟩)) (X 37) w11 := hv1; clear hv1; have hv1 := hV1; clear hV1; generalize X 37 = X37 at *
        have hV2 : (fun x _ => x = .agg #[.int .i64 (2 * p4), .int .i64 (2 * p5)]) (X 38) w11 := hv2; clear hv2; have hv2 := hV2; clear hV2; generalize X 38 = X38 at *
        have hV3 : (fun x _ => x = .int .i64 2) (X 39) w11 := hv3; clear hv3; have hv3 := hV3; clear hV3; generalize X 39 = X39 at *
        have hV4 : (fun x _ => x = .int .i64 3) (X 40) w11 := hv4; clear hv4; have hv4 := hV4; clear hV4; generalize X 40 = X40 at *
        have hV5 : (fun x _ => x = .int .i64 0) (X 41) w11 := hv5; clear hv5; have hv5 := hV5; clear hV5; generalize X 41 = X41 at *
        have hV6 : (fun x _ => x = .pointer (some ⟨w.heap.size, 0, none⟩)) (X 42) w11 := hv6; clear hv6; have hv6 := hV6; clear hV6; generalize X 42 = X42 at *
        have hV7 : (fun x _ => x = .agg #[.int .i64 (2 * p0), .int .i64 (2 * p1)]) (X 43) w11 := hv7; clear hv7; have hv7 := hV7; clear hV7; generalize X 43 = X43 at *
        have hx6' : Bx w11 (B 6) cs6 28 := hx6; clear hx6; generalize B 6 = b6 at *
        have hx7' : Bx w11 (B 7) cs7 28 := hx7; clear hx7; generalize B 7 = b7 at *
        have hn6' : w10.heap.size ≤ b6 := hn6; clear hn6
        have hn7' : w10.heap.size ≤ b7 := hn7; clear hn7
        obtain rfl := hv0
        obtain rfl := hv1
        obtain rfl := hv2
        obtain rfl := hv3
        obtain rfl := hv4
        obtain rfl := hv5
        obtain rfl := hv6
        obtain rfl := hv7
        obtain rfl := hg6
        obtain rfl := hg7
        have RC := Lib.hid (below_tr RB10.out hb); clear hb
        have FT_11 := Lib.hid (FT_10.out.below RC.out (Nat.le_refl _))
        have FQ_11 := Lib.hid (FQ_10.out.below RC.out (Nat.le_refl _))
        have HB11 := Lib.hid (HB10.out.trans (RC.out.mono HB10.out.size))
        clear HB10 FT_10 FQ_10 RC RB10
        have FE2 := Lib.hid hx6'; clear hx6'
        have FG2 := Lib.hid hx7'; clear hx7'
        have vE20 := FE2.out.cell 0 (v := .int .i64 (2 * p4)) rfl
        have vE21 := FE2.out.cell 1 (v := .int .i64 (2 * p5)) rfl
        have vG20 := FG2.out.cell 0 (v := .int .i64 (2 * p0)) rfl
        have vG21 := FG2.out.cell 1 (v := .int .i64 (2 * p1)) rfl
        have tt4 := T4.out; have vv4 := V4.out
        have tt5 := T5.out; have vv5 := V5.out
        have tt0 := T0.out; have vv0 := V0.out
        have tt1 := T1.out; have vv1 := V1.out
        have ssx := SX2.out; have ssy := SY2.out
        go_wp2_with fail
        refine (disc_Locate3 _ 3 (2 * p0) (2 * p1) (2 * p2) (2 * p3) (2 * p4) (2 * p5) (p4 + p0) (p5 + p1) hq2 _ FT_11.out FQ_11.out.t3).mono ?_
        rintro e w12 ⟨rfl, B⟩
        have HB12 := Lib.hid (HB11.out.trans (B.mono HB11.out.size))
        have FT_12 := Lib.hid (FT_11.out.below B (Nat.le_refl _))
        have FQ_12 := Lib.hid (FQ_11.out.below B (Nat.le_refl _))
        have FE2_12 := Lib.hid (FE2.out.below B (Nat.le_refl _))
        have FG2_12 := Lib.hid (FG2.out.below B (Nat.le_refl _))
        clear B  HB11 FT_11 FQ_11 FE2 FG2
        rw [HM2.out]
        clear vE20 vE21 vG20 vG21 tt4 vv4 tt5 vv5 tt0 vv0 tt1 vv1 ssx ssy
        go_wp2_with fail
        rw [rounds_succ]
        go_wp2_with fail
        refine (alive15 _ FT_12.out).mono ?_
        rintro e w13 ⟨rfl, B⟩
        have HB13 := Lib.hid (HB12.out.trans (B.mono HB12.out.size))
        have FT_13 := Lib.hid (FT_12.out.below B (Nat.le_refl _))
        have FQ_13 := Lib.hid (FQ_12.out.below B (Nat.le_refl _))
        clear B  HB12 FT_12 FQ_12
        go_wp2_with fail
        go_ret
        exact ⟨rfl, HB13.out⟩

theorem gTab0 : Tryd.prog.globalNamed "geofence/mask.words" = some 0 := by kernel_rfl
theorem gTabType0 : (Tryd.prog.globals[0]?).map (·.type) = some 93 := by kernel_rfl
theorem cellsT0 : Tryd.prog.cellsOf 93 = 2 := by kernel_rfl
theorem cellsE0 : Tryd.prog.cellsOf 23 = 1 := by kernel_rfl
theorem tableIs0 {W : World} (h : laidMetH Tryd.prog Rows.discMiddlesRow.laid W) : Lib.TabIs Tryd.prog W "geofence/mask.words" .u64 [9223372036854775808, 18446744073709551615] :=
  Lib.tabIs_of_head (rest := _) gTab0 gTabType0 Tryd.underlying93 Tryd.underlying23 cellsE0 cellsT0 h
theorem table0 {W : World} (h : laidMetH Tryd.prog Rows.discMiddlesRow.laid W) : TabM W := ⟨(tableIs0 h).cell gTab0 0 (by decide), (tableIs0 h).cell gTab0 1 (by decide)⟩

set_option maxRecDepth 100000 in
theorem contract (H : Type) (enc : TypeId × Value → H) (W : World) (base : Nat) (args : Array Value) (ds gs : List (DataW H)) (before : List MemPlace)
    (hval : ∀ (j : Nat) t v, Tryd.f12.params[j]? = some t → args[j]? = some v → Value.okWide Tryd.prog W .any base t v)
    (hW : DataW.Whole enc Tryd.prog Tryd.f12.params.toList Rows.discMiddlesSpec.vars false W args.toList ds gs before) (hL : laidMetH Tryd.prog Rows.discMiddlesRow.laid W) :
    Calls Tryd.prog 12 args W fun e W' => ∃ v, e = .returned v ∧ Rows.discMiddlesSpec.post enc Tryd.prog Tryd.f12 false true false false W args v W' := by
  have hW' := hW
  obtain ⟨p, q, hA0, hV, rfl, hfz, hnd⟩ := hW
  have hA : DataW.TrodAll enc Tryd.prog W 0 (fun _ => true) true Tryd.f12.params.toList args.toList ds p := hA0
  rw [Tryd.params12] at hA hval
  obtain ⟨v0, vs0, d0, ds0, p0, q0, hargs, rfl, rfl, h0, r0⟩ := trodAll_cons hA
  obtain ⟨rfl, rfl, rfl⟩ := trodAll_nil r0
  obtain rfl : args = #[v0] := by cases args; simp_all
  obtain ⟨rfl, rfl⟩ := trodVars_none hV
  have k0 := h0
  have lt0 : ∀ x ∈ p0, x.block < W.heap.size := by obtain ⟨m, hm⟩ := k0; exact DataW.trod_lt m _ _ _ hm
  obtain ⟨a0_0, a0_1, a0_2, a0_3, a0_4, a0_5, rfl, w0_0, w0_1, w0_2, w0_3, w0_4, w0_5⟩ := Op.open_pts3 Tryd.underlying41 Tryd.underlying28 rfl rfl rfl rfl Tryd.underlying2 (by kernel_rfl) (by kernel_rfl) (by kernel_rfl) h0
  clear hA0
  refine (walk a0_0 a0_1 a0_2 a0_3 a0_4 a0_5 w0_0 w0_1 w0_2 w0_3 w0_4 w0_5 (table0 hL)).mono fun e W' ⟨he, bel⟩ => ?_
  subst he
  exact ⟨_, rfl, _, _, _, [], _, [], hW', trodAll_mk1 (shut_bool Tryd.underlying4 _), (trodAll_cons_mk (Below.trod laidOut (by kernel_rfl) (of_decide_eq_true (by kernel_rfl)) k0 bel lt0) trodAll_mk0), rfl, bel.frame _, fun h => by cases h⟩

theorem joined : joinedFacts Tryd.prog 12 Tryd.f12 (OpenSpec.ofChange Rows.discMiddlesSpec).bare Rows.discMiddlesRow = true := by
  have e1 := enterIs
  have e2 := liftsIs
  have e3 := makeIs
  generalize hP : Tryd.prog = P at *
  unfold joinedFacts
  simp only [Bool.and_eq_true]
  repeat' apply And.intro
  all_goals first
    | with_reducible exact e1
    | (rw [e2]; kernel_rfl)
    | (rw [e3]; kernel_rfl)
    | (subst hP; kernel_rfl)

noncomputable def laidHeap (os : Os) : Array Obj :=
  (World.holding Tryd.prog os ⟨#[], #[], []⟩).heap.modify 0 (fun
      | .cells _ t frozen => .cells #[.int .u64 9223372036854775808, .int .u64 18446744073709551615] t frozen
      | o => o)
noncomputable def laidWorld (os : Os) : World :=
  { World.holding Tryd.prog os ⟨#[], #[], []⟩ with heap := laidHeap os }
theorem laid_met (os : Os) : laidMet Tryd.prog Rows.discMiddlesRow.laid ((laidWorld os).forCall (fun _ _ => 0) ⟨#[], #[.agg #[.int .i64 0, .int .i64 0, .int .i64 0, .int .i64 0, .int .i64 0, .int .i64 0]], []⟩).memory :=
  laidMet_of_run' 8 (by kernel_rfl) (by kernel_rfl)
theorem reads (os : Os) {H : Type} (enc : TypeId × Value → H) : ∃ places, DataW.whole enc Tryd.prog ((laidWorld os).forCall (fun _ _ => 0) ⟨#[], #[.agg #[.int .i64 0, .int .i64 0, .int .i64 0, .int .i64 0, .int .i64 0, .int .i64 0]], []⟩).memory Tryd.f12.params.toList Rows.discMiddlesSpec.vars false (#[.agg #[.int .i64 0, .int .i64 0, .int .i64 0, .int .i64 0, .int .i64 0, .int .i64 0]] : Array Value).toList 8 = some ([.agg [.agg [.lit (.int .i64 0), .lit (.int .i64 0)], .agg [.lit (.int .i64 0), .lit (.int .i64 0)], .agg [.lit (.int .i64 0), .lit (.int .i64 0)]]], [], places) :=
  ⟨[], by kernel_rfl⟩

set_option maxRecDepth 100000 in
theorem lifted (os : Os) (started : os.Started) (H : Type) (enc : TypeId × Value → H) (F : Stop.Interp) :
    ReturnsInHanded {} Tryd.checked os 12 .any ((OpenSpec.ofChange Rows.discMiddlesSpec).preRow enc Tryd.prog Tryd.f12 Rows.discMiddlesRow.domain false Rows.discMiddlesRow.laid) (((OpenSpec.ofChange Rows.discMiddlesSpec).at F).post enc Tryd.prog Tryd.f12 false true false false) := by
  obtain ⟨places, hx⟩ := reads os enc
  refine returnsInHanded_of_row (C := Tryd.checked) (s := OpenSpec.ofChange Rows.discMiddlesSpec) own started (by kernel_rfl) Tryd.func12
    (witness_row_at (enc := enc) (C := Tryd.checked) false (laidWorld os) #[.agg #[.int .i64 0, .int .i64 0, .int .i64 0, .int .i64 0, .int .i64 0, .int .i64 0]] rfl (by kernel_rfl) (by kernel_rfl) (by kernel_rfl)
      (OpenSpec.preRow_of_cond 8 hx (by kernel_rfl) (fun k hk => by cases hk) (by kernel_rfl) (laid_met os))) ?_
  intro W base args ds gs before hval hW _ _ _ hL _ _
  exact contract H enc W base args ds gs before hval hW hL

theorem said : Rows.DiscMiddlesSaid :=
  OpenClaim.holds_of_cond 12 Tryd.f12 rfl rfl rfl rfl rfl rfl rfl ⟨rfl, rfl, rfl, rfl, rfl⟩ rfl rfl rfl rfl rfl (by kernel_rfl) Tryd.func12 (joined)
    (of_decide_eq_true (by kernel_rfl)) (by unfold Func.isWrapper; first | (rw [if_pos (by decide +kernel)]; kernel_rfl) | (rw [if_neg (by decide +kernel)]; exact ⟨rfl, rfl⟩))
    (fun os started H enc _ F => by rw [OpenClaim.pre_eq_preRow]; exact lifted os started H enc F)

theorem plain (f : FuncId) (fn : Func) (hf : Tryd.pinned.checked.prog.funcNamed "geofence/geofencelaw15.DiscMiddles" = some f) (hfn : Tryd.pinned.checked.prog.funcs[f]? = some fn) :
    false = Tryd.pinned.checked.prog.looks [] ∧ ∀ (j : Nat) t, fn.params[j]? = some t → Tryd.pinned.checked.prog.wantsStandIn t = false := by
  obtain rfl : f = 12 := Option.some.inj ((show Tryd.prog.funcNamed "geofence/geofencelaw15.DiscMiddles" = some 12 by kernel_rfl).symm.trans hf) |>.symm
  obtain rfl : fn = Tryd.f12 := (Option.some.inj (Tryd.func12.symm.trans hfn)).symm
  refine ⟨by kernel_rfl, fun j t ht => ?_⟩
  rw [Tryd.params12] at ht
  have hm := Array.mem_of_getElem? ht
  simp at hm
  obtain rfl := hm
  exact (show Tryd.prog.wantsStandIn 41 = false by kernel_rfl)

/-- THE CARD -/
theorem card : Rows.DiscMiddlesCardSaid :=
  Claim7.holds_tied_plain_at .later [] _ _ _ _ said (fun _ h => by cases h) (by kernel_rfl) (fun _ h => by cases h) discMiddles_row_tie rfl ⟨rfl, rfl⟩ (mainText) rfl plain (by kernel_rfl)
#print axioms card
end Go.Proofs.YtoikcgmdlccdbaaDoor.discMiddles
