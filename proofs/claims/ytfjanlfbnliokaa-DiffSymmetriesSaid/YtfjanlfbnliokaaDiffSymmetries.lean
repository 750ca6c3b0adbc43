/- DiffSymmetries: for every input the law returns true, and each argument reads afterwards as it read before. -/
import Derived.Test.YtfjanlfbnliokaaRows
import Derived.Test.YtfjanlfbnliokaaLaw5
import Derived.Test.YtfjanlfbnliokaaGeo
import Derived.Test.YtfjanlfbnliokaaOpenPt
import Derived.WalkKit
import Derived.ProofKit
import Derived.OpenShut
import Derived.Below
namespace Go.Proofs.Ytfjanlfbnliokaa.diffSymmetries
open Go.ChangeShapes Go.WideShapes Go.ChangeAt Go.RowKit Wd
set_option linter.unusedVariables false
set_option linter.unusedSimpArgs false

theorem own : ownKnob Try.prog.godebug = none := by kernel_rfl
theorem laidOut : laidOutB Try.prog = true := by kernel_rfl

theorem fitN {x y : Int} (hx : IsI x) (hy : IsI y) : Fit 2 (-(x - y)) := by
  unfold Fit IsI at *
  rw [show S 2 = 340282366920938463463374607431768211456 from rfl]; omega
theorem bd_mul {a b c d : Int} (ha : IsI a) (hb : IsI b) (hc : IsI c) (hd : IsI d) : -340282366920938463463374607431768211456 ≤ (a - b) * (c - d) ∧ (a - b) * (c - d) ≤ 340282366920938463463374607431768211456 := by
  unfold IsI at *
  exact abs_mul_le (x := a - b) (y := c - d) (a := 18446744073709551616) (b := 18446744073709551616) ⟨by omega, by omega⟩ ⟨by omega, by omega⟩
theorem fit4s {x y : Int} (hx : -340282366920938463463374607431768211456 ≤ x ∧ x ≤ 340282366920938463463374607431768211456) (hy : -340282366920938463463374607431768211456 ≤ y ∧ y ≤ 340282366920938463463374607431768211456) : Fit 4 (x - y) ∧ Fit 4 (x + y) := by
  unfold Fit
  rw [show S 4 = 115792089237316195423570985008687907853269984665640564039457584007913129639936 from rfl]; omega
theorem nm_neg {w : World} {A : Option Addr} {n c : Nat} {x : Int} (h : Nm w A n c x) : Nm w A n c (-x) := by unfold Nm at *; rw [Int.natAbs_neg]; exact h
theorem sg0 {x : Int} (h : x = 0) : sg x = 0 := by rw [h]; rfl
set_option maxHeartbeats 4000000 in
theorem walk {w : World} (a0 b0 : Int) (w0 : (Lit.int .i64 a0).wf = true) (x0 : (Lit.int .i64 b0).wf = true) (a1 b1 : Int) (w1 : (Lit.int .i64 a1).wf = true) (x1 : (Lit.int .i64 b1).wf = true) (a2 b2 : Int) (w2 : (Lit.int .i64 a2).wf = true) (x2 : (Lit.int .i64 b2).wf = true)  :
    Calls Try.prog 6 #[.agg #[.int .i64 a0, .int .i64 b0], .agg #[.int .i64 a1, .int .i64 b1], .agg #[.int .i64 a2, .int .i64 b2]] w fun e w' => e = .returned (.bool true) ∧ Below w.heap.size w w' := by
  have HB0 := Lib.hid (Below.refl w.heap.size w)
  have ia0 := isI_of_wf w0
  have ib0 := isI_of_wf x0
  have ia1 := isI_of_wf w1
  have ib1 := isI_of_wf x1
  have ia2 := isI_of_wf w2
  have ib2 := isI_of_wf x2
  have HC := Lib.hid (show (a1 - a0) * (b2 - b0) - (b1 - b0) * (a2 - a0) = -((a2 - a0) * (b1 - b0) - (b2 - b0) * (a1 - a0)) from by grind); have HD := Lib.hid (show (a1 - a0) * (a2 - a0) + (b1 - b0) * (b2 - b0) = (a2 - a0) * (a1 - a0) + (b2 - b0) * (b1 - b0) from by grind); have HM := Lib.hid (show (-(a1 - a0)) * (b2 - b0) - (-(b1 - b0)) * (a2 - a0) = (a2 - a0) * (b1 - b0) - (b2 - b0) * (a1 - a0) from by grind)
  go_enter Try.func6, Try.ntmps6
  go_wp2_with fail
  have B : Below w.heap.size w (((w.alloc (.cells #[.int .i64 a0, .int .i64 b0] 23)).alloc (.cells #[.int .i64 a1, .int .i64 b1] 23)).alloc (.cells #[.int .i64 a2, .int .i64 b2] 23)) := (((HB0.out.alloc HB0.out.size _).alloc (HB0.out.alloc HB0.out.size _).size _).alloc ((HB0.out.alloc HB0.out.size _).alloc (HB0.out.alloc HB0.out.size _).size _).size _)
  have C : Below w.heap.size w (((w.alloc (.cells #[.int .i64 a0, .int .i64 b0] 23)).alloc (.cells #[.int .i64 a1, .int .i64 b1] 23)).alloc (.cells #[.int .i64 a2, .int .i64 b2] 23)) := ((((Below.refl w.heap.size w).alloc (Nat.le_refl _) _).alloc (by simp; try omega) _).alloc (by simp; try omega) _)
  have X0 : Bx (((w.alloc (.cells #[.int .i64 a0, .int .i64 b0] 23)).alloc (.cells #[.int .i64 a1, .int .i64 b1] 23)).alloc (.cells #[.int .i64 a2, .int .i64 b2] 23)) (w.heap.size) #[.int .i64 a0, .int .i64 b0] 23 := by simpa using (((Bx.new w #[.int .i64 a0, .int .i64 b0] 23).alloc _).alloc _)
  have X1 : Bx (((w.alloc (.cells #[.int .i64 a0, .int .i64 b0] 23)).alloc (.cells #[.int .i64 a1, .int .i64 b1] 23)).alloc (.cells #[.int .i64 a2, .int .i64 b2] 23)) (w.heap.size + 1) #[.int .i64 a1, .int .i64 b1] 23 := by simpa using ((Bx.new (w.alloc (.cells #[.int .i64 a0, .int .i64 b0] 23)) #[.int .i64 a1, .int .i64 b1] 23).alloc _)
  have X2 : Bx (((w.alloc (.cells #[.int .i64 a0, .int .i64 b0] 23)).alloc (.cells #[.int .i64 a1, .int .i64 b1] 23)).alloc (.cells #[.int .i64 a2, .int .i64 b2] 23)) (w.heap.size + 1 + 1) #[.int .i64 a2, .int .i64 b2] 23 := by simpa using (Bx.new ((w.alloc (.cells #[.int .i64 a0, .int .i64 b0] 23)).alloc (.cells #[.int .i64 a1, .int .i64 b1] 23)) #[.int .i64 a2, .int .i64 b2] 23)
  have HB1 := Lib.hid B
  have FP_1 := Lib.hid X0
  have FQ_1 := Lib.hid X1
  have FR_1 := Lib.hid X2
  clear B C X0 X1 X2 HB0 
  generalize (((w.alloc (.cells #[.int .i64 a0, .int .i64 b0] 23)).alloc (.cells #[.int .i64 a1, .int .i64 b1] 23)).alloc (.cells #[.int .i64 a2, .int .i64 b2] 23)) = w1 at *
  have RB1 := Lib.hid (below_drew0 w1)
  refine wp_region_held_drew (S := fun _ => True) (by kernel_rfl) trivial (fun _ => ?_)
  refine wpAnyH_gen [(⟨6, 8, 7, 26, #[.slice none 0 0, .slice none 0 0], []⟩, fun cs w => ∃ (U : Option Addr) (u : Nat) (V : Option Addr) (v : Nat), cs = #[.slice U 2 u, .slice V 2 v] ∧ Sl w .u64 U 2 u (lmb (a1 - a0)) ∧ Sl w .u64 V 2 v (lmb (b1 - b0))), (⟨7, 9, 8, 26, #[.slice none 0 0, .slice none 0 0], []⟩, fun cs w => ∃ (U : Option Addr) (u : Nat) (V : Option Addr) (v : Nat), cs = #[.slice U 2 u, .slice V 2 v] ∧ Sl w .u64 U 2 u (lmb (a2 - a0)) ∧ Sl w .u64 V 2 v (lmb (b2 - b0)))] [⟨0, 13, fun x _ => x = .agg #[.int .i64 a0, .int .i64 b0]⟩, ⟨1, 14, fun x _ => x = .agg #[.int .i64 a1, .int .i64 b1]⟩, ⟨2, 15, fun x w => ∃ (U : Option Addr) (u : Nat) (V : Option Addr) (v : Nat), x = .agg #[.slice U 2 u, .slice V 2 v] ∧ Sl w .u64 U 2 u (lmb (a1 - a0)) ∧ Sl w .u64 V 2 v (lmb (b1 - b0))⟩, ⟨3, 16, fun x _ => x = .agg #[.int .i64 a0, .int .i64 b0]⟩, ⟨4, 17, fun x _ => x = .agg #[.int .i64 a2, .int .i64 b2]⟩, ⟨5, 18, fun x w => ∃ (U : Option Addr) (u : Nat) (V : Option Addr) (v : Nat), x = .agg #[.slice U 2 u, .slice V 2 v] ∧ Sl w .u64 U 2 u (lmb (a2 - a0)) ∧ Sl w .u64 V 2 v (lmb (b2 - b0))⟩] (by kernel_rfl) (by kernel_rfl) (fun _ => trivial) ?_ ?_ ?_ ?_ ?_ ?_
  · refine ⟨?_, ?_, trivial⟩
    all_goals exact ⟨fun cs => by (dsimp only; repeat (first | exact Stay.const _ | exact Stay.sl _ _ _ _ | exact Stay.nm _ _ _ _ | exact Stay.bx _ _ _ _ | refine Stay.ex fun _ => ?_ | refine Stay.and ?_ ?_)), by dsimp only; decide, by simp [NoU]⟩
  · refine ⟨?_, ?_, ?_, ?_, ?_, ?_, trivial⟩
    all_goals (intro x; (dsimp only; repeat (first | exact Stay.const _ | exact Stay.sl _ _ _ _ | exact Stay.nm _ _ _ _ | exact Stay.bx _ _ _ _ | refine Stay.ex fun _ => ?_ | refine Stay.and ?_ ?_)))
  · refine ⟨?_, ?_, trivial⟩
    all_goals (intro a w K h; refine wpOp_step (by simp only [List.getElem?_toArray, List.getElem?_cons_succ, List.getElem?_cons_zero]; rfl) (fun K' hK => ?_); go_simp; exact hK _ _ h)
  · refine ⟨?_, ?_, trivial⟩
    · intro a w B K ht hd hs hb hK
      obtain ⟨x15, hx15, hp15⟩ := hd 2 _ rfl (by kernel_rfl)
      obtain ⟨U2, u2, V2, v2, rfl, S2, T2⟩ := hp15
      have es15 : a.tmps.getD 15 undef = _ := getD_of hx15; clear hx15
      clear ht hd
      have c0 := hb.cell 0 (v := .slice none 0 0) rfl; have z0 := hb.free 0
      have c1 := hb.cell 1 (v := .slice none 0 0) rfl; have z1 := hb.free 1
      have HK := Lib.hid (hK [.slice U2 2 u2, .slice V2 2 v2] rfl (by simp [NoU]) ⟨U2, u2, V2, v2, rfl, S2, T2⟩); clear hK hb
      simp only [ptrTo] at hs
      have esB : a.tmps.getD 7 undef = _ := getD_of hs; clear hs
      refine wpOp_step (by simp only [List.getElem?_toArray, List.getElem?_cons_succ, List.getElem?_cons_zero]; rfl) (fun K' hK' => ?_)
      go_simp
      exact hK' _ _ HK.out
    · intro a w B K ht hd hs hb hK
      obtain ⟨x18, hx18, hp18⟩ := hd 5 _ rfl (by kernel_rfl)
      obtain ⟨U5, u5, V5, v5, rfl, S5, T5⟩ := hp18
      have es18 : a.tmps.getD 18 undef = _ := getD_of hx18; clear hx18
      clear ht hd
      have c0 := hb.cell 0 (v := .slice none 0 0) rfl; have z0 := hb.free 0
      have c1 := hb.cell 1 (v := .slice none 0 0) rfl; have z1 := hb.free 1
      have HK := Lib.hid (hK [.slice U5 2 u5, .slice V5 2 v5] rfl (by simp [NoU]) ⟨U5, u5, V5, v5, rfl, S5, T5⟩); clear hK hb
      simp only [ptrTo] at hs
      have esB : a.tmps.getD 8 undef = _ := getD_of hs; clear hs
      refine wpOp_step (by simp only [List.getElem?_toArray, List.getElem?_cons_succ, List.getElem?_cons_zero]; rfl) (fun K' hK' => ?_)
      go_simp
      exact hK' _ _ HK.out
  · refine ⟨?_, ?_, ?_, ?_, ?_, ?_, trivial⟩
    · intro a w K hb ht hd hK
      have hbw := Lib.hid (below_tr RB1.out hb); clear hb
      have hx3 := (ht 3 rfl).trans rfl
      have es3 : a.tmps.getD 3 undef = _ := getD_of hx3; clear hx3
      clear ht hd
      have c0 := (FP_1.out.below hbw.out (Nat.le_refl _)).cell 0 (v := .int .i64 a0) rfl
      have c1 := (FP_1.out.below hbw.out (Nat.le_refl _)).cell 1 (v := .int .i64 b0) rfl
      have HK := Lib.hid hK; clear hK
      refine wpOp_step (by simp only [List.getElem?_toArray, List.getElem?_cons_succ, List.getElem?_cons_zero]; rfl) (fun K' hK' => ?_)
      have HK' := Lib.hid hK'; clear hK'
      go_simp
      exact HK'.out _ _ (HK.out _ _ below_rf rfl)
    · intro a w K hb ht hd hK
      have hbw := Lib.hid (below_tr RB1.out hb); clear hb
      have hx4 := (ht 4 rfl).trans rfl
      have es4 : a.tmps.getD 4 undef = _ := getD_of hx4; clear hx4
      clear ht hd
      have c0 := (FQ_1.out.below hbw.out (Nat.le_refl _)).cell 0 (v := .int .i64 a1) rfl
      have c1 := (FQ_1.out.below hbw.out (Nat.le_refl _)).cell 1 (v := .int .i64 b1) rfl
      have HK := Lib.hid hK; clear hK
      refine wpOp_step (by simp only [List.getElem?_toArray, List.getElem?_cons_succ, List.getElem?_cons_zero]; rfl) (fun K' hK' => ?_)
      have HK' := Lib.hid hK'; clear hK'
      go_simp
      exact HK'.out _ _ (HK.out _ _ below_rf rfl)
    · intro a w K hb ht hd hK
      have hbw := Lib.hid (below_tr RB1.out hb); clear hb
      obtain ⟨x13, hx13, hp13⟩ := hd 0 _ rfl (by kernel_rfl)
      obtain rfl := hp13
      have es13 : a.tmps.getD 13 undef = _ := getD_of hx13; clear hx13
      obtain ⟨x14, hx14, hp14⟩ := hd 1 _ rfl (by kernel_rfl)
      obtain rfl := hp14
      have es14 : a.tmps.getD 14 undef = _ := getD_of hx14; clear hx14
      clear ht hd
      have HK := Lib.hid hK; clear hK
      refine wpOp_step (by simp only [List.getElem?_toArray, List.getElem?_cons_succ, List.getElem?_cons_zero]; rfl) (fun K' hK' => ?_)
      have HK' := Lib.hid hK'; clear hK'
      go_simp
      refine (diff_Between a0 b0 a1 b1 ia0 ib0 ia1 ib1 _).mono ?_
      rintro e w1 ⟨⟨U, u, V, v, rfl, S, T⟩, B⟩
      go_wp2_with fail
      exact HK'.out _ _ (HK.out _ _ B ⟨U, u, V, v, rfl, S, T⟩)
    · intro a w K hb ht hd hK
      have hbw := Lib.hid (below_tr RB1.out hb); clear hb
      have hx3 := (ht 3 rfl).trans rfl
      have es3 : a.tmps.getD 3 undef = _ := getD_of hx3; clear hx3
      clear ht hd
      have c0 := (FP_1.out.below hbw.out (Nat.le_refl _)).cell 0 (v := .int .i64 a0) rfl
      have c1 := (FP_1.out.below hbw.out (Nat.le_refl _)).cell 1 (v := .int .i64 b0) rfl
      have HK := Lib.hid hK; clear hK
      refine wpOp_step (by simp only [List.getElem?_toArray, List.getElem?_cons_succ, List.getElem?_cons_zero]; rfl) (fun K' hK' => ?_)
      have HK' := Lib.hid hK'; clear hK'
      go_simp
      exact HK'.out _ _ (HK.out _ _ below_rf rfl)
    · intro a w K hb ht hd hK
      have hbw := Lib.hid (below_tr RB1.out hb); clear hb
      have hx5 := (ht 5 rfl).trans rfl
      have es5 : a.tmps.getD 5 undef = _ := getD_of hx5; clear hx5
      clear ht hd
      have c0 := (FR_1.out.below hbw.out (Nat.le_refl _)).cell 0 (v := .int .i64 a2) rfl
      have c1 := (FR_1.out.below hbw.out (Nat.le_refl _)).cell 1 (v := .int .i64 b2) rfl
      have HK := Lib.hid hK; clear hK
      refine wpOp_step (by simp only [List.getElem?_toArray, List.getElem?_cons_succ, List.getElem?_cons_zero]; rfl) (fun K' hK' => ?_)
      have HK' := Lib.hid hK'; clear hK'
      go_simp
      exact HK'.out _ _ (HK.out _ _ below_rf rfl)
    · intro a w K hb ht hd hK
      have hbw := Lib.hid (below_tr RB1.out hb); clear hb
      obtain ⟨x16, hx16, hp16⟩ := hd 3 _ rfl (by kernel_rfl)
      obtain rfl := hp16
      have es16 : a.tmps.getD 16 undef = _ := getD_of hx16; clear hx16
      obtain ⟨x17, hx17, hp17⟩ := hd 4 _ rfl (by kernel_rfl)
      obtain rfl := hp17
      have es17 : a.tmps.getD 17 undef = _ := getD_of hx17; clear hx17
      clear ht hd
      have HK := Lib.hid hK; clear hK
      refine wpOp_step (by simp only [List.getElem?_toArray, List.getElem?_cons_succ, List.getElem?_cons_zero]; rfl) (fun K' hK' => ?_)
      have HK' := Lib.hid hK'; clear hK'
      go_simp
      refine (diff_Between a0 b0 a2 b2 ia0 ib0 ia2 ib2 _).mono ?_
      rintro e w1 ⟨⟨U, u, V, v, rfl, S, T⟩, B⟩
      go_wp2_with fail
      exact HK'.out _ _ (HK.out _ _ B ⟨U, u, V, v, rfl, S, T⟩)
  · intro w2 X B hb hv hx hd
    simp only [List.foldl_cons, List.foldl_nil, Act.put, List.setIfInBounds_toArray, List.set_cons_zero, List.set_cons_succ, ptrTo]
    obtain ⟨hv0, hv1, hv2, hv3, hv4, hv5, -⟩ := hv
    obtain ⟨⟨hn7, cs7, hx7, hg7⟩, ⟨hn8, cs8, hx8, hg8⟩, -⟩ := hx
    clear hd
    have hV0 : (fun x _ => x = .agg #[.int .i64 a0, .int .i64 b0]) (X 13) w2 := hv0; clear hv0; have hv0 := hV0; clear hV0; generalize X 13 = X13 at *
    have hV1 : (fun x _ => x = .agg #[.int .i64 a1, .int .i64 b1]) (X 14) w2 := hv1; clear hv1; have hv1 := hV1; clear hV1; generalize X 14 = X14 at *
    have hV2 : (fun x w => ∃ (U : Option Addr) (u : Nat) (V : Option Addr) (v : Nat), x = .agg #[.slice U 2 u, .slice V 2 v] ∧ Sl w .u64 U 2 u (lmb (a1 - a0)) ∧ Sl w .u64 V 2 v (lmb (b1 - b0))) (X 15) w2 := hv2; clear hv2; have hv2 := hV2; clear hV2; generalize X 15 = X15 at *
    have hV3 : (fun x _ => x = .agg #[.int .i64 a0, .int .i64 b0]) (X 16) w2 := hv3; clear hv3; have hv3 := hV3; clear hV3; generalize X 16 = X16 at *
    have hV4 : (fun x _ => x = .agg #[.int .i64 a2, .int .i64 b2]) (X 17) w2 := hv4; clear hv4; have hv4 := hV4; clear hV4; generalize X 17 = X17 at *
    have hV5 : (fun x w => ∃ (U : Option Addr) (u : Nat) (V : Option Addr) (v : Nat), x = .agg #[.slice U 2 u, .slice V 2 v] ∧ Sl w .u64 U 2 u (lmb (a2 - a0)) ∧ Sl w .u64 V 2 v (lmb (b2 - b0))) (X 18) w2 := hv5; clear hv5; have hv5 := hV5; clear hV5; generalize X 18 = X18 at *
    have hx7' : Bx w2 (B 7) cs7 26 := hx7; clear hx7; generalize B 7 = b7 at *
    have hx8' : Bx w2 (B 8) cs8 26 := hx8; clear hx8; generalize B 8 = b8 at *
    have hn7' : w1.heap.size ≤ b7 := hn7; clear hn7
    have hn8' : w1.heap.size ≤ b8 := hn8; clear hn8
    obtain rfl := hv0
    obtain rfl := hv1
    clear hv2
    obtain rfl := hv3
    obtain rfl := hv4
    clear hv5
    obtain ⟨U7, u7, V7, v7, rfl, S7, T7⟩ := hg7
    obtain ⟨U8, u8, V8, v8, rfl, S8, T8⟩ := hg8
    have RC := Lib.hid (below_tr RB1.out hb); clear hb
    have FP_2 := Lib.hid (FP_1.out.below RC.out (Nat.le_refl _))
    have FQ_2 := Lib.hid (FQ_1.out.below RC.out (Nat.le_refl _))
    have FR_2 := Lib.hid (FR_1.out.below RC.out (Nat.le_refl _))
    have HB2 := Lib.hid (HB1.out.trans (RC.out.mono HB1.out.size))
    clear HB1 FP_1 FQ_1 FR_1 RC RB1
    have FB7 := Lib.hid hx7'; clear hx7'
    have FS7 := Lib.hid S7; clear S7
    have FT7 := Lib.hid T7; clear T7
    have FB8 := Lib.hid hx8'; clear hx8'
    have FS8 := Lib.hid S8; clear S8
    have FT8 := Lib.hid T8; clear T8
    go_wp2_with fail
    have RB2 := Lib.hid (below_drew0 w2)
    refine wp_region_held_drew (S := fun _ => True) (by kernel_rfl) trivial (fun _ => ?_)
    refine wpAnyH_gen [(⟨5, 7, 9, 26, #[.slice none 0 0, .slice none 0 0], []⟩, fun cs w => ∃ (U : Option Addr) (u : Nat) (V : Option Addr) (v : Nat), cs = #[.slice U 2 u, .slice V 2 v] ∧ Sl w .u64 U 2 u (lmb (a0 - a1)) ∧ Sl w .u64 V 2 v (lmb (b0 - b1))), (⟨6, 8, 10, 26, #[.slice none 0 0, .slice none 0 0], []⟩, fun cs w => ∃ (U : Option Addr) (u : Nat) (V : Option Addr) (v : Nat), cs = #[.slice U 2 u, .slice V 2 v] ∧ Sl w .u64 U 2 u (lmb (-(a1 - a0))) ∧ Sl w .u64 V 2 v (lmb (-(b1 - b0))))] [⟨0, 19, fun x _ => x = .agg #[.int .i64 a1, .int .i64 b1]⟩, ⟨1, 20, fun x _ => x = .agg #[.int .i64 a0, .int .i64 b0]⟩, ⟨2, 21, fun x w => ∃ (U : Option Addr) (u : Nat) (V : Option Addr) (v : Nat), x = .agg #[.slice U 2 u, .slice V 2 v] ∧ Sl w .u64 U 2 u (lmb (a0 - a1)) ∧ Sl w .u64 V 2 v (lmb (b0 - b1))⟩, ⟨3, 22, fun x _ => x = .agg #[.slice U7 2 u7, .slice V7 2 v7]⟩, ⟨4, 23, fun x w => ∃ (U : Option Addr) (u : Nat) (V : Option Addr) (v : Nat), x = .agg #[.slice U 2 u, .slice V 2 v] ∧ Sl w .u64 U 2 u (lmb (-(a1 - a0))) ∧ Sl w .u64 V 2 v (lmb (-(b1 - b0)))⟩] (by kernel_rfl) (by kernel_rfl) (fun _ => trivial) ?_ ?_ ?_ ?_ ?_ ?_
    · refine ⟨?_, ?_, trivial⟩
      all_goals exact ⟨fun cs => by (dsimp only; repeat (first | exact Stay.const _ | exact Stay.sl _ _ _ _ | exact Stay.nm _ _ _ _ | exact Stay.bx _ _ _ _ | refine Stay.ex fun _ => ?_ | refine Stay.and ?_ ?_)), by dsimp only; decide, by simp [NoU]⟩
    · refine ⟨?_, ?_, ?_, ?_, ?_, trivial⟩
      all_goals (intro x; (dsimp only; repeat (first | exact Stay.const _ | exact Stay.sl _ _ _ _ | exact Stay.nm _ _ _ _ | exact Stay.bx _ _ _ _ | refine Stay.ex fun _ => ?_ | refine Stay.and ?_ ?_)))
    · refine ⟨?_, ?_, trivial⟩
      all_goals (intro a w K h; refine wpOp_step (by simp only [List.getElem?_toArray, List.getElem?_cons_succ, List.getElem?_cons_zero]; rfl) (fun K' hK => ?_); go_simp; exact hK _ _ h)
    · refine ⟨?_, ?_, trivial⟩
      · intro a w B K ht hd hs hb hK
        obtain ⟨x21, hx21, hp21⟩ := hd 2 _ rfl (by kernel_rfl)
        obtain ⟨U2, u2, V2, v2, rfl, S2, T2⟩ := hp21
        have es21 : a.tmps.getD 21 undef = _ := getD_of hx21; clear hx21
        clear ht hd
        have c0 := hb.cell 0 (v := .slice none 0 0) rfl; have z0 := hb.free 0
        have c1 := hb.cell 1 (v := .slice none 0 0) rfl; have z1 := hb.free 1
        have HK := Lib.hid (hK [.slice U2 2 u2, .slice V2 2 v2] rfl (by simp [NoU]) ⟨U2, u2, V2, v2, rfl, S2, T2⟩); clear hK hb
        simp only [ptrTo] at hs
        have esB : a.tmps.getD 9 undef = _ := getD_of hs; clear hs
        refine wpOp_step (by simp only [List.getElem?_toArray, List.getElem?_cons_succ, List.getElem?_cons_zero]; rfl) (fun K' hK' => ?_)
        go_simp
        exact hK' _ _ HK.out
      · intro a w B K ht hd hs hb hK
        obtain ⟨x23, hx23, hp23⟩ := hd 4 _ rfl (by kernel_rfl)
        obtain ⟨U4, u4, V4, v4, rfl, S4, T4⟩ := hp23
        have es23 : a.tmps.getD 23 undef = _ := getD_of hx23; clear hx23
        clear ht hd
        have c0 := hb.cell 0 (v := .slice none 0 0) rfl; have z0 := hb.free 0
        have c1 := hb.cell 1 (v := .slice none 0 0) rfl; have z1 := hb.free 1
        have HK := Lib.hid (hK [.slice U4 2 u4, .slice V4 2 v4] rfl (by simp [NoU]) ⟨U4, u4, V4, v4, rfl, S4, T4⟩); clear hK hb
        simp only [ptrTo] at hs
        have esB : a.tmps.getD 10 undef = _ := getD_of hs; clear hs
        refine wpOp_step (by simp only [List.getElem?_toArray, List.getElem?_cons_succ, List.getElem?_cons_zero]; rfl) (fun K' hK' => ?_)
        go_simp
        exact hK' _ _ HK.out
    · refine ⟨?_, ?_, ?_, ?_, ?_, trivial⟩
      · intro a w K hb ht hd hK
        have hbw := Lib.hid (below_tr RB2.out hb); clear hb
        have hx4 := (ht 4 rfl).trans rfl
        have es4 : a.tmps.getD 4 undef = _ := getD_of hx4; clear hx4
        clear ht hd
        have c0 := (FQ_2.out.below hbw.out (Nat.le_refl _)).cell 0 (v := .int .i64 a1) rfl
        have c1 := (FQ_2.out.below hbw.out (Nat.le_refl _)).cell 1 (v := .int .i64 b1) rfl
        have HK := Lib.hid hK; clear hK
        refine wpOp_step (by simp only [List.getElem?_toArray, List.getElem?_cons_succ, List.getElem?_cons_zero]; rfl) (fun K' hK' => ?_)
        have HK' := Lib.hid hK'; clear hK'
        go_simp
        exact HK'.out _ _ (HK.out _ _ below_rf rfl)
      · intro a w K hb ht hd hK
        have hbw := Lib.hid (below_tr RB2.out hb); clear hb
        have hx3 := (ht 3 rfl).trans rfl
        have es3 : a.tmps.getD 3 undef = _ := getD_of hx3; clear hx3
        clear ht hd
        have c0 := (FP_2.out.below hbw.out (Nat.le_refl _)).cell 0 (v := .int .i64 a0) rfl
        have c1 := (FP_2.out.below hbw.out (Nat.le_refl _)).cell 1 (v := .int .i64 b0) rfl
        have HK := Lib.hid hK; clear hK
        refine wpOp_step (by simp only [List.getElem?_toArray, List.getElem?_cons_succ, List.getElem?_cons_zero]; rfl) (fun K' hK' => ?_)
        have HK' := Lib.hid hK'; clear hK'
        go_simp
        exact HK'.out _ _ (HK.out _ _ below_rf rfl)
      · intro a w K hb ht hd hK
        have hbw := Lib.hid (below_tr RB2.out hb); clear hb
        obtain ⟨x19, hx19, hp19⟩ := hd 0 _ rfl (by kernel_rfl)
        obtain rfl := hp19
        have es19 : a.tmps.getD 19 undef = _ := getD_of hx19; clear hx19
        obtain ⟨x20, hx20, hp20⟩ := hd 1 _ rfl (by kernel_rfl)
        obtain rfl := hp20
        have es20 : a.tmps.getD 20 undef = _ := getD_of hx20; clear hx20
        clear ht hd
        have HK := Lib.hid hK; clear hK
        refine wpOp_step (by simp only [List.getElem?_toArray, List.getElem?_cons_succ, List.getElem?_cons_zero]; rfl) (fun K' hK' => ?_)
        have HK' := Lib.hid hK'; clear hK'
        go_simp
        refine (diff_Between a1 b1 a0 b0 ia1 ib1 ia0 ib0 _).mono ?_
        rintro e w1 ⟨⟨U, u, V, v, rfl, S, T⟩, B⟩
        go_wp2_with fail
        exact HK'.out _ _ (HK.out _ _ B ⟨U, u, V, v, rfl, S, T⟩)
      · intro a w K hb ht hd hK
        have hbw := Lib.hid (below_tr RB2.out hb); clear hb
        have hx7 := (ht 7 rfl).trans rfl
        have es7 : a.tmps.getD 7 undef = _ := getD_of hx7; clear hx7
        clear ht hd
        have c0 := (FB7.out.below hbw.out (Nat.le_refl _)).cell 0 (v := .slice U7 2 u7) rfl
        have c1 := (FB7.out.below hbw.out (Nat.le_refl _)).cell 1 (v := .slice V7 2 v7) rfl
        have HK := Lib.hid hK; clear hK
        refine wpOp_step (by simp only [List.getElem?_toArray, List.getElem?_cons_succ, List.getElem?_cons_zero]; rfl) (fun K' hK' => ?_)
        have HK' := Lib.hid hK'; clear hK'
        go_simp
        exact HK'.out _ _ (HK.out _ _ below_rf rfl)
      · intro a w K hb ht hd hK
        have hbw := Lib.hid (below_tr RB2.out hb); clear hb
        obtain ⟨x22, hx22, hp22⟩ := hd 3 _ rfl (by kernel_rfl)
        obtain rfl := hp22
        have es22 : a.tmps.getD 22 undef = _ := getD_of hx22; clear hx22
        clear ht hd
        have HK := Lib.hid hK; clear hK
        refine wpOp_step (by simp only [List.getElem?_toArray, List.getElem?_cons_succ, List.getElem?_cons_zero]; rfl) (fun K' hK' => ?_)
        have HK' := Lib.hid hK'; clear hK'
        go_simp
        refine (diff_Neg _ _ _ _ _ _ _ (FS7.out.below hbw.out (Nat.le_refl _)) (FT7.out.below hbw.out (Nat.le_refl _))).mono ?_
        rintro e w1 ⟨⟨U, u, V, v, rfl, S, T⟩, B⟩
        go_wp2_with fail
        exact HK'.out _ _ (HK.out _ _ B ⟨U, u, V, v, rfl, S, T⟩)
    · intro w3 X B hb hv hx hd
      simp only [List.foldl_cons, List.foldl_nil, Act.put, List.setIfInBounds_toArray, List.set_cons_zero, List.set_cons_succ, ptrTo]
      obtain ⟨hv0, hv1, hv2, hv3, hv4, -⟩ := hv
      obtain ⟨⟨hn9, cs9, hx9, hg9⟩, ⟨hn10, cs10, hx10, hg10⟩, -⟩ := hx
      clear hd
      have hV0 : (fun x _ => x = .agg #[.int .i64 a1, .int .i64 b1]) (X 19) w3 := hv0; clear hv0; have hv0 := hV0; clear hV0; generalize X 19 = X19 at *
      have hV1 : (fun x _ => x = .agg #[.int .i64 a0, .int .i64 b0]) (X 20) w3 := hv1; clear hv1; have hv1 := hV1; clear hV1; generalize X 20 = X20 at *
      have hV2 : (fun x w => ∃ (U : Option Addr) (u : Nat) (V : Option Addr) (v : Nat), x = .agg #[.slice U 2 u, .slice V 2 v] ∧ Sl w .u64 U 2 u (lmb (a0 - a1)) ∧ Sl w .u64 V 2 v (lmb (b0 - b1))) (X 21) w3 := hv2; clear hv2; have hv2 := hV2; clear hV2; generalize X 21 = X21 at *
      have hV3 : (fun x _ => x = .agg #[.slice U7 2 u7, .slice V7 2 v7]) (X 22) w3 := hv3; clear hv3; have hv3 := hV3; clear hV3; generalize X 22 = X22 at *
      have hV4 : (fun x w => ∃ (U : Option Addr) (u : Nat) (V : Option Addr) (v : Nat), x = .agg #[.slice U 2 u, .slice V 2 v] ∧ Sl w .u64 U 2 u (lmb (-(a1 - a0))) ∧ Sl w .u64 V 2 v (lmb (-(b1 - b0)))) (X 23) w3 := hv4; clear hv4; have hv4 := hV4; clear hV4; generalize X 23 = X23 at *
      have hx9' : Bx w3 (B 9) cs9 26 := hx9; clear hx9; generalize B 9 = b9 at *
      have hx10' : Bx w3 (B 10) cs10 26 := hx10; clear hx10; generalize B 10 = b10 at *
      have hn9' : w2.heap.size ≤ b9 := hn9; clear hn9
      have hn10' : w2.heap.size ≤ b10 := hn10; clear hn10
      obtain rfl := hv0
      obtain rfl := hv1
      clear hv2
      obtain rfl := hv3
      clear hv4
      obtain ⟨U9, u9, V9, v9, rfl, S9, T9⟩ := hg9
      obtain ⟨U10, u10, V10, v10, rfl, S10, T10⟩ := hg10
      have RC := Lib.hid (below_tr RB2.out hb); clear hb
      have FP_3 := Lib.hid (FP_2.out.below RC.out (Nat.le_refl _))
      have FQ_3 := Lib.hid (FQ_2.out.below RC.out (Nat.le_refl _))
      have FR_3 := Lib.hid (FR_2.out.below RC.out (Nat.le_refl _))
      have FB7_3 := Lib.hid (FB7.out.below RC.out (Nat.le_refl _))
      have FS7_3 := Lib.hid (FS7.out.below RC.out (Nat.le_refl _))
      have FT7_3 := Lib.hid (FT7.out.below RC.out (Nat.le_refl _))
      have FB8_3 := Lib.hid (FB8.out.below RC.out (Nat.le_refl _))
      have FS8_3 := Lib.hid (FS8.out.below RC.out (Nat.le_refl _))
      have FT8_3 := Lib.hid (FT8.out.below RC.out (Nat.le_refl _))
      have HB3 := Lib.hid (HB2.out.trans (RC.out.mono HB2.out.size))
      clear HB2 FP_2 FQ_2 FR_2 FB7 FS7 FT7 FB8 FS8 FT8 RC RB2
      have FB9 := Lib.hid hx9'; clear hx9'
      have FS9 := Lib.hid S9; clear S9
      have FT9 := Lib.hid T9; clear T9
      have FB10 := Lib.hid hx10'; clear hx10'
      have FS10 := Lib.hid S10; clear S10
      have FT10 := Lib.hid T10; clear T10
      have vB90 := FB9.out.cell 0 (v := .slice U9 2 u9) rfl
      have vB91 := FB9.out.cell 1 (v := .slice V9 2 v9) rfl
      have vB100 := FB10.out.cell 0 (v := .slice U10 2 u10) rfl
      have vB101 := FB10.out.cell 1 (v := .slice V10 2 v10) rfl
      go_wp2_with fail
      refine (ref3_Same _ _ _ _ _ _ _ _ FS9.out FS10.out (fun i _ => congrArg (fun z => lmb z i) (by omega))).mono ?_
      rintro e w4 ⟨rfl, B⟩
      clear vB90 vB91 vB100 vB101
      have HB4 := Lib.hid (HB3.out.trans (B.mono HB3.out.size))
      have FP_4 := Lib.hid (FP_3.out.below B (Nat.le_refl _))
      have FQ_4 := Lib.hid (FQ_3.out.below B (Nat.le_refl _))
      have FR_4 := Lib.hid (FR_3.out.below B (Nat.le_refl _))
      have FB7_4 := Lib.hid (FB7_3.out.below B (Nat.le_refl _))
      have FS7_4 := Lib.hid (FS7_3.out.below B (Nat.le_refl _))
      have FT7_4 := Lib.hid (FT7_3.out.below B (Nat.le_refl _))
      have FB8_4 := Lib.hid (FB8_3.out.below B (Nat.le_refl _))
      have FS8_4 := Lib.hid (FS8_3.out.below B (Nat.le_refl _))
      have FT8_4 := Lib.hid (FT8_3.out.below B (Nat.le_refl _))
      have FB9_4 := Lib.hid (FB9.out.below B (Nat.le_refl _))
      have FS9_4 := Lib.hid (FS9.out.below B (Nat.le_refl _))
      have FT9_4 := Lib.hid (FT9.out.below B (Nat.le_refl _))
      have FB10_4 := Lib.hid (FB10.out.below B (Nat.le_refl _))
      have FS10_4 := Lib.hid (FS10.out.below B (Nat.le_refl _))
      have FT10_4 := Lib.hid (FT10.out.below B (Nat.le_refl _))
      clear B  HB3 FP_3 FQ_3 FR_3 FB7_3 FS7_3 FT7_3 FB8_3 FS8_3 FT8_3 FB9 FS9 FT9 FB10 FS10 FT10
      have vB90 := FB9_4.out.cell 0 (v := .slice U9 2 u9) rfl
      have vB91 := FB9_4.out.cell 1 (v := .slice V9 2 v9) rfl
      have vB100 := FB10_4.out.cell 0 (v := .slice U10 2 u10) rfl
      have vB101 := FB10_4.out.cell 1 (v := .slice V10 2 v10) rfl
      go_wp2_with fail
      refine (ref3_Same _ _ _ _ _ _ _ _ FT9_4.out FT10_4.out (fun i _ => congrArg (fun z => lmb z i) (by omega))).mono ?_
      rintro e w5 ⟨rfl, B⟩
      clear vB90 vB91 vB100 vB101
      have HB5 := Lib.hid (HB4.out.trans (B.mono HB4.out.size))
      have FP_5 := Lib.hid (FP_4.out.below B (Nat.le_refl _))
      have FQ_5 := Lib.hid (FQ_4.out.below B (Nat.le_refl _))
      have FR_5 := Lib.hid (FR_4.out.below B (Nat.le_refl _))
      have FB7_5 := Lib.hid (FB7_4.out.below B (Nat.le_refl _))
      have FS7_5 := Lib.hid (FS7_4.out.below B (Nat.le_refl _))
      have FT7_5 := Lib.hid (FT7_4.out.below B (Nat.le_refl _))
      have FB8_5 := Lib.hid (FB8_4.out.below B (Nat.le_refl _))
      have FS8_5 := Lib.hid (FS8_4.out.below B (Nat.le_refl _))
      have FT8_5 := Lib.hid (FT8_4.out.below B (Nat.le_refl _))
      have FB9_5 := Lib.hid (FB9_4.out.below B (Nat.le_refl _))
      have FS9_5 := Lib.hid (FS9_4.out.below B (Nat.le_refl _))
      have FT9_5 := Lib.hid (FT9_4.out.below B (Nat.le_refl _))
      have FB10_5 := Lib.hid (FB10_4.out.below B (Nat.le_refl _))
      have FS10_5 := Lib.hid (FS10_4.out.below B (Nat.le_refl _))
      have FT10_5 := Lib.hid (FT10_4.out.below B (Nat.le_refl _))
      clear B  HB4 FP_4 FQ_4 FR_4 FB7_4 FS7_4 FT7_4 FB8_4 FS8_4 FT8_4 FB9_4 FS9_4 FT9_4 FB10_4 FS10_4 FT10_4
      go_wp2_with fail
      have RB5 := Lib.hid (below_drew0 w5)
      refine wp_region_held_drew (S := fun _ => True) (by kernel_rfl) trivial (fun _ => ?_)
      refine wpAnyH_gen [] [⟨0, 38, fun x _ => x = .agg #[.slice U7 2 u7, .slice V7 2 v7]⟩, ⟨1, 39, fun x _ => x = .agg #[.slice U8 2 u8, .slice V8 2 v8]⟩, ⟨2, 40, fun x w => ∃ (A : Option Addr) (c : Nat), x = .slice A 4 c ∧ Sl w .u64 A 4 c (lmb ((a1 - a0) * (b2 - b0) - (b1 - b0) * (a2 - a0)))⟩, ⟨3, 41, fun x _ => x = .agg #[.slice U8 2 u8, .slice V8 2 v8]⟩, ⟨4, 42, fun x _ => x = .agg #[.slice U7 2 u7, .slice V7 2 v7]⟩, ⟨5, 43, fun x w => ∃ (A : Option Addr) (c : Nat), x = .slice A 4 c ∧ Sl w .u64 A 4 c (lmb ((a2 - a0) * (b1 - b0) - (b2 - b0) * (a1 - a0)))⟩, ⟨6, 11, fun x w => ∃ (A : Option Addr) (c : Nat), x = .slice A 4 c ∧ Sl w .u64 A 4 c (lmb ((a1 - a0) * (b2 - b0) - (b1 - b0) * (a2 - a0)))⟩, ⟨7, 12, fun x w => ∃ (A : Option Addr) (c : Nat), x = .slice A 4 c ∧ Sl w .u64 A 4 c (lmb ((a2 - a0) * (b1 - b0) - (b2 - b0) * (a1 - a0)))⟩] (by kernel_rfl) (by kernel_rfl) (fun _ => trivial) ?_ ?_ ?_ ?_ ?_ ?_
      · exact trivial
      · refine ⟨?_, ?_, ?_, ?_, ?_, ?_, ?_, ?_, trivial⟩
        all_goals (intro x; (dsimp only; repeat (first | exact Stay.const _ | exact Stay.sl _ _ _ _ | exact Stay.nm _ _ _ _ | exact Stay.bx _ _ _ _ | refine Stay.ex fun _ => ?_ | refine Stay.and ?_ ?_)))
      · exact trivial
      · exact trivial
      · refine ⟨?_, ?_, ?_, ?_, ?_, ?_, ?_, ?_, trivial⟩
        · intro a w K hb ht hd hK
          have hbw := Lib.hid (below_tr RB5.out hb); clear hb
          have hx7 := (ht 7 rfl).trans rfl
          have es7 : a.tmps.getD 7 undef = _ := getD_of hx7; clear hx7
          clear ht hd
          have c0 := (FB7_5.out.below hbw.out (Nat.le_refl _)).cell 0 (v := .slice U7 2 u7) rfl
          have c1 := (FB7_5.out.below hbw.out (Nat.le_refl _)).cell 1 (v := .slice V7 2 v7) rfl
          have HK := Lib.hid hK; clear hK
          refine wpOp_step (by simp only [List.getElem?_toArray, List.getElem?_cons_succ, List.getElem?_cons_zero]; rfl) (fun K' hK' => ?_)
          have HK' := Lib.hid hK'; clear hK'
          go_simp
          exact HK'.out _ _ (HK.out _ _ below_rf rfl)
        · intro a w K hb ht hd hK
          have hbw := Lib.hid (below_tr RB5.out hb); clear hb
          have hx8 := (ht 8 rfl).trans rfl
          have es8 : a.tmps.getD 8 undef = _ := getD_of hx8; clear hx8
          clear ht hd
          have c0 := (FB8_5.out.below hbw.out (Nat.le_refl _)).cell 0 (v := .slice U8 2 u8) rfl
          have c1 := (FB8_5.out.below hbw.out (Nat.le_refl _)).cell 1 (v := .slice V8 2 v8) rfl
          have HK := Lib.hid hK; clear hK
          refine wpOp_step (by simp only [List.getElem?_toArray, List.getElem?_cons_succ, List.getElem?_cons_zero]; rfl) (fun K' hK' => ?_)
          have HK' := Lib.hid hK'; clear hK'
          go_simp
          exact HK'.out _ _ (HK.out _ _ below_rf rfl)
        · intro a w K hb ht hd hK
          have hbw := Lib.hid (below_tr RB5.out hb); clear hb
          obtain ⟨x38, hx38, hp38⟩ := hd 0 _ rfl (by kernel_rfl)
          obtain rfl := hp38
          have es38 : a.tmps.getD 38 undef = _ := getD_of hx38; clear hx38
          obtain ⟨x39, hx39, hp39⟩ := hd 1 _ rfl (by kernel_rfl)
          obtain rfl := hp39
          have es39 : a.tmps.getD 39 undef = _ := getD_of hx39; clear hx39
          clear ht hd
          have HK := Lib.hid hK; clear hK
          refine wpOp_step (by simp only [List.getElem?_toArray, List.getElem?_cons_succ, List.getElem?_cons_zero]; rfl) (fun K' hK' => ?_)
          have HK' := Lib.hid hK'; clear hK'
          go_simp
          refine (diff_Cross _ _ _ _ _ _ _ _ _ _ _ _ _ (FS7_5.out.below hbw.out (Nat.le_refl _)) (FT7_5.out.below hbw.out (Nat.le_refl _)) (FS8_5.out.below hbw.out (Nat.le_refl _)) (FT8_5.out.below hbw.out (Nat.le_refl _)) (fit_sub ia1 ia0) (fit_sub ib1 ib0) (fit_sub ia2 ia0) (fit_sub ib2 ib0)).mono ?_
          rintro e w1 ⟨⟨A, c, rfl, S⟩, B⟩
          go_wp2_with fail
          exact HK'.out _ _ (HK.out _ _ B ⟨A, c, rfl, S⟩)
        · intro a w K hb ht hd hK
          have hbw := Lib.hid (below_tr RB5.out hb); clear hb
          have hx8 := (ht 8 rfl).trans rfl
          have es8 : a.tmps.getD 8 undef = _ := getD_of hx8; clear hx8
          clear ht hd
          have c0 := (FB8_5.out.below hbw.out (Nat.le_refl _)).cell 0 (v := .slice U8 2 u8) rfl
          have c1 := (FB8_5.out.below hbw.out (Nat.le_refl _)).cell 1 (v := .slice V8 2 v8) rfl
          have HK := Lib.hid hK; clear hK
          refine wpOp_step (by simp only [List.getElem?_toArray, List.getElem?_cons_succ, List.getElem?_cons_zero]; rfl) (fun K' hK' => ?_)
          have HK' := Lib.hid hK'; clear hK'
          go_simp
          exact HK'.out _ _ (HK.out _ _ below_rf rfl)
        · intro a w K hb ht hd hK
          have hbw := Lib.hid (below_tr RB5.out hb); clear hb
          have hx7 := (ht 7 rfl).trans rfl
          have es7 : a.tmps.getD 7 undef = _ := getD_of hx7; clear hx7
          clear ht hd
          have c0 := (FB7_5.out.below hbw.out (Nat.le_refl _)).cell 0 (v := .slice U7 2 u7) rfl
          have c1 := (FB7_5.out.below hbw.out (Nat.le_refl _)).cell 1 (v := .slice V7 2 v7) rfl
          have HK := Lib.hid hK; clear hK
          refine wpOp_step (by simp only [List.getElem?_toArray, List.getElem?_cons_succ, List.getElem?_cons_zero]; rfl) (fun K' hK' => ?_)
          have HK' := Lib.hid hK'; clear hK'
          go_simp
          exact HK'.out _ _ (HK.out _ _ below_rf rfl)
        · intro a w K hb ht hd hK
          have hbw := Lib.hid (below_tr RB5.out hb); clear hb
          obtain ⟨x41, hx41, hp41⟩ := hd 3 _ rfl (by kernel_rfl)
          obtain rfl := hp41
          have es41 : a.tmps.getD 41 undef = _ := getD_of hx41; clear hx41
          obtain ⟨x42, hx42, hp42⟩ := hd 4 _ rfl (by kernel_rfl)
          obtain rfl := hp42
          have es42 : a.tmps.getD 42 undef = _ := getD_of hx42; clear hx42
          clear ht hd
          have HK := Lib.hid hK; clear hK
          refine wpOp_step (by simp only [List.getElem?_toArray, List.getElem?_cons_succ, List.getElem?_cons_zero]; rfl) (fun K' hK' => ?_)
          have HK' := Lib.hid hK'; clear hK'
          go_simp
          refine (diff_Cross _ _ _ _ _ _ _ _ _ _ _ _ _ (FS8_5.out.below hbw.out (Nat.le_refl _)) (FT8_5.out.below hbw.out (Nat.le_refl _)) (FS7_5.out.below hbw.out (Nat.le_refl _)) (FT7_5.out.below hbw.out (Nat.le_refl _)) (fit_sub ia2 ia0) (fit_sub ib2 ib0) (fit_sub ia1 ia0) (fit_sub ib1 ib0)).mono ?_
          rintro e w1 ⟨⟨A, c, rfl, S⟩, B⟩
          go_wp2_with fail
          exact HK'.out _ _ (HK.out _ _ B ⟨A, c, rfl, S⟩)
        · intro a w K hb ht hd hK
          have hbw := Lib.hid (below_tr RB5.out hb); clear hb
          obtain ⟨x40, hx40, hp40⟩ := hd 2 _ rfl (by kernel_rfl)
          obtain ⟨A2, c2, rfl, S2⟩ := hp40
          have es40 : a.tmps.getD 40 undef = _ := getD_of hx40; clear hx40
          clear ht hd
          have HK := Lib.hid hK; clear hK
          refine wpOp_step (by simp only [List.getElem?_toArray, List.getElem?_cons_succ, List.getElem?_cons_zero]; rfl) (fun K' hK' => ?_)
          have HK' := Lib.hid hK'; clear hK'
          go_simp
          exact HK'.out _ _ (HK.out _ _ below_rf ⟨A2, c2, rfl, S2⟩)
        · intro a w K hb ht hd hK
          have hbw := Lib.hid (below_tr RB5.out hb); clear hb
          obtain ⟨x43, hx43, hp43⟩ := hd 5 _ rfl (by kernel_rfl)
          obtain ⟨A5, c5, rfl, S5⟩ := hp43
          have es43 : a.tmps.getD 43 undef = _ := getD_of hx43; clear hx43
          clear ht hd
          have HK := Lib.hid hK; clear hK
          refine wpOp_step (by simp only [List.getElem?_toArray, List.getElem?_cons_succ, List.getElem?_cons_zero]; rfl) (fun K' hK' => ?_)
          have HK' := Lib.hid hK'; clear hK'
          go_simp
          exact HK'.out _ _ (HK.out _ _ below_rf ⟨A5, c5, rfl, S5⟩)
      · intro w6 X B hb hv hx hd
        simp only [List.foldl_cons, List.foldl_nil, Act.put, List.setIfInBounds_toArray, List.set_cons_zero, List.set_cons_succ, ptrTo]
        obtain ⟨hv0, hv1, hv2, hv3, hv4, hv5, hv6, hv7, -⟩ := hv
        clear hd
        have hV0 : (fun x _ => x = .agg #[.slice U7 2 u7, .slice V7 2 v7]) (X 38) w6 := hv0; clear hv0; have hv0 := hV0; clear hV0; generalize X 38 = X38 at *
        have hV1 : (fun x _ => x = .agg #[.slice U8 2 u8, .slice V8 2 v8]) (X 39) w6 := hv1; clear hv1; have hv1 := hV1; clear hV1; generalize X 39 = X39 at *
        have hV2 : (fun x w => ∃ (A : Option Addr) (c : Nat), x = .slice A 4 c ∧ Sl w .u64 A 4 c (lmb ((a1 - a0) * (b2 - b0) - (b1 - b0) * (a2 - a0)))) (X 40) w6 := hv2; clear hv2; have hv2 := hV2; clear hV2; generalize X 40 = X40 at *
        have hV3 : (fun x _ => x = .agg #[.slice U8 2 u8, .slice V8 2 v8]) (X 41) w6 := hv3; clear hv3; have hv3 := hV3; clear hV3; generalize X 41 = X41 at *
        have hV4 : (fun x _ => x = .agg #[.slice U7 2 u7, .slice V7 2 v7]) (X 42) w6 := hv4; clear hv4; have hv4 := hV4; clear hV4; generalize X 42 = X42 at *
        have hV5 : (fun x w => ∃ (A : Option Addr) (c : Nat), x = .slice A 4 c ∧ Sl w .u64 A 4 c (lmb ((a2 - a0) * (b1 - b0) - (b2 - b0) * (a1 - a0)))) (X 43) w6 := hv5; clear hv5; have hv5 := hV5; clear hV5; generalize X 43 = X43 at *
        have hV6 : (fun x w => ∃ (A : Option Addr) (c : Nat), x = .slice A 4 c ∧ Sl w .u64 A 4 c (lmb ((a1 - a0) * (b2 - b0) - (b1 - b0) * (a2 - a0)))) (X 11) w6 := hv6; clear hv6; have hv6 := hV6; clear hV6; generalize X 11 = X11 at *
        have hV7 : (fun x w => ∃ (A : Option Addr) (c : Nat), x = .slice A 4 c ∧ Sl w .u64 A 4 c (lmb ((a2 - a0) * (b1 - b0) - (b2 - b0) * (a1 - a0)))) (X 12) w6 := hv7; clear hv7; have hv7 := hV7; clear hV7; generalize X 12 = X12 at *
        obtain rfl := hv0
        obtain rfl := hv1
        clear hv2
        obtain rfl := hv3
        obtain rfl := hv4
        clear hv5
        obtain ⟨A106, c106, rfl, S106⟩ := hv6
        obtain ⟨A107, c107, rfl, S107⟩ := hv7
        have RC := Lib.hid (below_tr RB5.out hb); clear hb
        have FP_6 := Lib.hid (FP_5.out.below RC.out (Nat.le_refl _))
        have FQ_6 := Lib.hid (FQ_5.out.below RC.out (Nat.le_refl _))
        have FR_6 := Lib.hid (FR_5.out.below RC.out (Nat.le_refl _))
        have FB7_6 := Lib.hid (FB7_5.out.below RC.out (Nat.le_refl _))
        have FS7_6 := Lib.hid (FS7_5.out.below RC.out (Nat.le_refl _))
        have FT7_6 := Lib.hid (FT7_5.out.below RC.out (Nat.le_refl _))
        have FB8_6 := Lib.hid (FB8_5.out.below RC.out (Nat.le_refl _))
        have FS8_6 := Lib.hid (FS8_5.out.below RC.out (Nat.le_refl _))
        have FT8_6 := Lib.hid (FT8_5.out.below RC.out (Nat.le_refl _))
        have FB10_6 := Lib.hid (FB10_5.out.below RC.out (Nat.le_refl _))
        have FS10_6 := Lib.hid (FS10_5.out.below RC.out (Nat.le_refl _))
        have FT10_6 := Lib.hid (FT10_5.out.below RC.out (Nat.le_refl _))
        have HB6 := Lib.hid (HB5.out.trans (RC.out.mono HB5.out.size))
        clear HB5 FP_5 FQ_5 FR_5 FB7_5 FS7_5 FT7_5 FB8_5 FS8_5 FT8_5 FB10_5 FS10_5 FT10_5 RC RB5
        have FS106 := Lib.hid S106; clear S106
        have FS107 := Lib.hid S107; clear S107
        go_wp2_with fail
        have RB6 := Lib.hid (below_drew0 w6)
        refine wp_region_held_drew (S := fun _ => True) (by kernel_rfl) trivial (fun _ => ?_)
        refine wpAnyH_gen [] [⟨0, 52, fun x _ => x = .bool true⟩, ⟨1, 53, fun x _ => x = .bool true⟩, ⟨2, 54, fun x _ => x = .slice A106 4 c106⟩, ⟨3, 55, fun x _ => x = .slice A107 4 c107⟩, ⟨4, 56, fun x w => ∃ (A : Option Addr) (n c : Nat), x = .agg #[.int .i64 (sg ((a2 - a0) * (b1 - b0) - (b2 - b0) * (a1 - a0))), .slice A n c] ∧ Nm w A n c ((a2 - a0) * (b1 - b0) - (b2 - b0) * (a1 - a0)) ∧ n ≤ 4 * 4 + 2⟩, ⟨5, 57, fun x w => ∃ (A : Option Addr) (n c : Nat), x = .agg #[.int .i64 (sg (-((a2 - a0) * (b1 - b0) - (b2 - b0) * (a1 - a0)))), .slice A n c] ∧ Nm w A n c (-((a2 - a0) * (b1 - b0) - (b2 - b0) * (a1 - a0))) ∧ n ≤ 4 * 4 + 2⟩, ⟨6, 58, fun x _ => x = .bool true⟩, ⟨7, 59, fun x _ => x = .bool true⟩, ⟨8, 60, fun x _ => x = .bool true⟩, ⟨9, 61, fun x _ => x = .agg #[.slice U7 2 u7, .slice V7 2 v7]⟩, ⟨10, 62, fun x _ => x = .agg #[.slice U8 2 u8, .slice V8 2 v8]⟩, ⟨11, 63, fun x w => ∃ (A : Option Addr) (c : Nat), x = .slice A 4 c ∧ Sl w .u64 A 4 c (lmb ((a1 - a0) * (a2 - a0) + (b1 - b0) * (b2 - b0)))⟩, ⟨12, 64, fun x _ => x = .agg #[.slice U8 2 u8, .slice V8 2 v8]⟩, ⟨13, 65, fun x _ => x = .agg #[.slice U7 2 u7, .slice V7 2 v7]⟩, ⟨14, 66, fun x w => ∃ (A : Option Addr) (c : Nat), x = .slice A 4 c ∧ Sl w .u64 A 4 c (lmb ((a2 - a0) * (a1 - a0) + (b2 - b0) * (b1 - b0)))⟩, ⟨15, 67, fun x _ => x = .bool true⟩, ⟨16, 68, fun x _ => x = .bool true⟩, ⟨17, 69, fun x _ => x = .bool true⟩, ⟨18, 70, fun x _ => x = .agg #[.slice U10 2 u10, .slice V10 2 v10]⟩, ⟨19, 71, fun x _ => x = .agg #[.slice U8 2 u8, .slice V8 2 v8]⟩, ⟨20, 72, fun x w => ∃ (A : Option Addr) (c : Nat), x = .slice A 4 c ∧ Sl w .u64 A 4 c (lmb ((-(a1 - a0)) * (b2 - b0) - (-(b1 - b0)) * (a2 - a0)))⟩, ⟨21, 73, fun x _ => x = .slice A107 4 c107⟩, ⟨22, 74, fun x _ => x = .bool true⟩, ⟨23, 75, fun x _ => x = .bool true⟩, ⟨24, 6, fun x _ => x = .bool true⟩] (by kernel_rfl) (by kernel_rfl) (fun _ => trivial) ?_ ?_ ?_ ?_ ?_ ?_
        · exact trivial
        · refine ⟨?_, ?_, ?_, ?_, ?_, ?_, ?_, ?_, ?_, ?_, ?_, ?_, ?_, ?_, ?_, ?_, ?_, ?_, ?_, ?_, ?_, ?_, ?_, ?_, ?_, trivial⟩
          all_goals (intro x; (dsimp only; repeat (first | exact Stay.const _ | exact Stay.sl _ _ _ _ | exact Stay.nm _ _ _ _ | exact Stay.bx _ _ _ _ | refine Stay.ex fun _ => ?_ | refine Stay.and ?_ ?_)))
        · exact trivial
        · exact trivial
        · refine ⟨?_, ?_, ?_, ?_, ?_, ?_, ?_, ?_, ?_, ?_, ?_, ?_, ?_, ?_, ?_, ?_, ?_, ?_, ?_, ?_, ?_, ?_, ?_, ?_, ?_, trivial⟩
          · intro a w K hb ht hd hK
            have hbw := Lib.hid (below_tr RB6.out hb); clear hb
            clear ht hd
            have HK := Lib.hid hK; clear hK
            refine wpOp_step (by simp only [List.getElem?_toArray, List.getElem?_cons_succ, List.getElem?_cons_zero]; rfl) (fun K' hK' => ?_)
            have HK' := Lib.hid hK'; clear hK'
            go_simp
            refine (alive5 _).mono ?_
            rintro e w1 ⟨rfl, B⟩
            go_wp2_with fail
            exact HK'.out _ _ (HK.out _ _ B rfl)
          · intro a w K hb ht hd hK
            have hbw := Lib.hid (below_tr RB6.out hb); clear hb
            obtain ⟨x52, hx52, hp52⟩ := hd 0 _ rfl (by kernel_rfl)
            obtain rfl := hp52
            have es52 : a.tmps.getD 52 undef = _ := getD_of hx52; clear hx52
            clear ht hd
            have HK := Lib.hid hK; clear hK
            refine wpOp_step (by simp only [List.getElem?_toArray, List.getElem?_cons_succ, List.getElem?_cons_zero]; rfl) (fun K' hK' => ?_)
            have HK' := Lib.hid hK'; clear hK'
            go_simp
            exact HK'.out _ _ (HK.out _ _ below_rf rfl)
          · intro a w K hb ht hd hK
            have hbw := Lib.hid (below_tr RB6.out hb); clear hb
            have hx11 := (ht 11 rfl).trans rfl
            have es11 : a.tmps.getD 11 undef = _ := getD_of hx11; clear hx11
            obtain ⟨x53, hx53, hp53⟩ := hd 1 _ rfl (by kernel_rfl)
            obtain rfl := hp53
            have es53 : a.tmps.getD 53 undef = _ := getD_of hx53; have gs53 : a.tmps[53]? = some _ := hx53; clear hx53
            clear ht hd
            have HK := Lib.hid hK; clear hK
            refine wpOp_step (by simp only [List.getElem?_toArray, List.getElem?_cons_succ, List.getElem?_cons_zero]; rfl) (fun K' hK' => ?_)
            have HK' := Lib.hid hK'; clear hK'
            go_simp
            exact HK'.out _ _ (HK.out _ _ below_rf rfl)
          · intro a w K hb ht hd hK
            have hbw := Lib.hid (below_tr RB6.out hb); clear hb
            have hx12 := (ht 12 rfl).trans rfl
            have es12 : a.tmps.getD 12 undef = _ := getD_of hx12; clear hx12
            obtain ⟨x53, hx53, hp53⟩ := hd 1 _ rfl (by kernel_rfl)
            obtain rfl := hp53
            have es53 : a.tmps.getD 53 undef = _ := getD_of hx53; have gs53 : a.tmps[53]? = some _ := hx53; clear hx53
            clear ht hd
            have HK := Lib.hid hK; clear hK
            refine wpOp_step (by simp only [List.getElem?_toArray, List.getElem?_cons_succ, List.getElem?_cons_zero]; rfl) (fun K' hK' => ?_)
            have HK' := Lib.hid hK'; clear hK'
            go_simp
            exact HK'.out _ _ (HK.out _ _ below_rf rfl)
          · intro a w K hb ht hd hK
            have hbw := Lib.hid (below_tr RB6.out hb); clear hb
            obtain ⟨x55, hx55, hp55⟩ := hd 3 _ rfl (by kernel_rfl)
            obtain rfl := hp55
            have es55 : a.tmps.getD 55 undef = _ := getD_of hx55; clear hx55
            obtain ⟨x53, hx53, hp53⟩ := hd 1 _ rfl (by kernel_rfl)
            obtain rfl := hp53
            have es53 : a.tmps.getD 53 undef = _ := getD_of hx53; have gs53 : a.tmps[53]? = some _ := hx53; clear hx53
            clear ht hd
            have HK := Lib.hid hK; clear hK
            refine wpOp_step (by simp only [List.getElem?_toArray, List.getElem?_cons_succ, List.getElem?_cons_zero]; rfl) (fun K' hK' => ?_)
            have HK' := Lib.hid hK'; clear hK'
            go_simp
            refine (ref3_Value _ _ _ ((a2 - a0) * (b1 - b0) - (b2 - b0) * (a1 - a0)) _ (FS107.out.below hbw.out (Nat.le_refl _)) (fit4s (bd_mul ia2 ia0 ib1 ib0) (bd_mul ib2 ib0 ia1 ia0)).1 (by omega)).mono ?_
            rintro e w1 ⟨⟨A, n, c, rfl, b, S⟩, B⟩
            go_wp2_with fail
            exact HK'.out _ _ (HK.out _ _ B ⟨A, n, c, rfl, S, b⟩)
          · intro a w K hb ht hd hK
            have hbw := Lib.hid (below_tr RB6.out hb); clear hb
            obtain ⟨x56, hx56, hp56⟩ := hd 4 _ rfl (by kernel_rfl)
            obtain ⟨A4, n4, c4, rfl, S4, b4⟩ := hp56
            have es56 : a.tmps.getD 56 undef = _ := getD_of hx56; clear hx56
            obtain ⟨x53, hx53, hp53⟩ := hd 1 _ rfl (by kernel_rfl)
            obtain rfl := hp53
            have es53 : a.tmps.getD 53 undef = _ := getD_of hx53; have gs53 : a.tmps[53]? = some _ := hx53; clear hx53
            clear ht hd
            have HK := Lib.hid hK; clear hK
            refine wpOp_step (by simp only [List.getElem?_toArray, List.getElem?_cons_succ, List.getElem?_cons_zero]; rfl) (fun K' hK' => ?_)
            have HK' := Lib.hid hK'; clear hK'
            go_simp
            refine (ref3_Neg A4 n4 c4 ((a2 - a0) * (b1 - b0) - (b2 - b0) * (a1 - a0)) _ S4).mono ?_
            rintro e w1 ⟨rfl, B⟩
            go_wp2_with fail
            exact HK'.out _ _ (HK.out _ _ B ⟨A4, n4, c4, rfl, nm_neg (S4.below B (Nat.le_refl _)), b4⟩)
          · intro a w K hb ht hd hK
            have hbw := Lib.hid (below_tr RB6.out hb); clear hb
            obtain ⟨x54, hx54, hp54⟩ := hd 2 _ rfl (by kernel_rfl)
            obtain rfl := hp54
            have es54 : a.tmps.getD 54 undef = _ := getD_of hx54; clear hx54
            obtain ⟨x57, hx57, hp57⟩ := hd 5 _ rfl (by kernel_rfl)
            obtain ⟨A5, n5, c5, rfl, S5, b5⟩ := hp57
            have es57 : a.tmps.getD 57 undef = _ := getD_of hx57; clear hx57
            obtain ⟨x53, hx53, hp53⟩ := hd 1 _ rfl (by kernel_rfl)
            obtain rfl := hp53
            have es53 : a.tmps.getD 53 undef = _ := getD_of hx53; have gs53 : a.tmps[53]? = some _ := hx53; clear hx53
            clear ht hd
            have HK := Lib.hid hK; clear hK
            refine wpOp_step (by simp only [List.getElem?_toArray, List.getElem?_cons_succ, List.getElem?_cons_zero]; rfl) (fun K' hK' => ?_)
            have HK' := Lib.hid hK'; clear hK'
            go_simp
            refine (law5_limbs _ _ 4 _ _ _ (-((a2 - a0) * (b1 - b0) - (b2 - b0) * (a1 - a0))) ((a1 - a0) * (b2 - b0) - (b1 - b0) * (a2 - a0)) 4 rfl _ (FS106.out.below hbw.out (Nat.le_refl _)) S5 (fun i _ => congrArg (fun z => lmb z i) HC.out) (by omega) (by omega)).mono ?_
            rintro e w1 ⟨rfl, B⟩
            go_wp2_with fail
            exact HK'.out _ _ (HK.out _ _ B rfl)
          · intro a w K hb ht hd hK
            have hbw := Lib.hid (below_tr RB6.out hb); clear hb
            obtain ⟨x53, hx53, hp53⟩ := hd 1 _ rfl (by kernel_rfl)
            obtain rfl := hp53
            have es53 : a.tmps.getD 53 undef = _ := getD_of hx53; clear hx53
            obtain ⟨x58, hx58, hp58⟩ := hd 6 _ rfl (by kernel_rfl)
            obtain rfl := hp58
            have es58 : a.tmps.getD 58 undef = _ := getD_of hx58; clear hx58
            clear ht hd
            have HK := Lib.hid hK; clear hK
            refine wpOp_step (by simp only [List.getElem?_toArray, List.getElem?_cons_succ, List.getElem?_cons_zero]; rfl) (fun K' hK' => ?_)
            have HK' := Lib.hid hK'; clear hK'
            go_simp
            exact HK'.out _ _ (HK.out _ _ below_rf rfl)
          · intro a w K hb ht hd hK
            have hbw := Lib.hid (below_tr RB6.out hb); clear hb
            obtain ⟨x59, hx59, hp59⟩ := hd 7 _ rfl (by kernel_rfl)
            obtain rfl := hp59
            have es59 : a.tmps.getD 59 undef = _ := getD_of hx59; clear hx59
            clear ht hd
            have HK := Lib.hid hK; clear hK
            refine wpOp_step (by simp only [List.getElem?_toArray, List.getElem?_cons_succ, List.getElem?_cons_zero]; rfl) (fun K' hK' => ?_)
            have HK' := Lib.hid hK'; clear hK'
            go_simp
            exact HK'.out _ _ (HK.out _ _ below_rf rfl)
          · intro a w K hb ht hd hK
            have hbw := Lib.hid (below_tr RB6.out hb); clear hb
            have hx7 := (ht 7 rfl).trans rfl
            have es7 : a.tmps.getD 7 undef = _ := getD_of hx7; clear hx7
            obtain ⟨x60, hx60, hp60⟩ := hd 8 _ rfl (by kernel_rfl)
            obtain rfl := hp60
            have es60 : a.tmps.getD 60 undef = _ := getD_of hx60; have gs60 : a.tmps[60]? = some _ := hx60; clear hx60
            clear ht hd
            have c0 := (FB7_6.out.below hbw.out (Nat.le_refl _)).cell 0 (v := .slice U7 2 u7) rfl
            have c1 := (FB7_6.out.below hbw.out (Nat.le_refl _)).cell 1 (v := .slice V7 2 v7) rfl
            have HK := Lib.hid hK; clear hK
            refine wpOp_step (by simp only [List.getElem?_toArray, List.getElem?_cons_succ, List.getElem?_cons_zero]; rfl) (fun K' hK' => ?_)
            have HK' := Lib.hid hK'; clear hK'
            go_simp
            exact HK'.out _ _ (HK.out _ _ below_rf rfl)
          · intro a w K hb ht hd hK
            have hbw := Lib.hid (below_tr RB6.out hb); clear hb
            have hx8 := (ht 8 rfl).trans rfl
            have es8 : a.tmps.getD 8 undef = _ := getD_of hx8; clear hx8
            obtain ⟨x60, hx60, hp60⟩ := hd 8 _ rfl (by kernel_rfl)
            obtain rfl := hp60
            have es60 : a.tmps.getD 60 undef = _ := getD_of hx60; have gs60 : a.tmps[60]? = some _ := hx60; clear hx60
            clear ht hd
            have c0 := (FB8_6.out.below hbw.out (Nat.le_refl _)).cell 0 (v := .slice U8 2 u8) rfl
            have c1 := (FB8_6.out.below hbw.out (Nat.le_refl _)).cell 1 (v := .slice V8 2 v8) rfl
            have HK := Lib.hid hK; clear hK
            refine wpOp_step (by simp only [List.getElem?_toArray, List.getElem?_cons_succ, List.getElem?_cons_zero]; rfl) (fun K' hK' => ?_)
            have HK' := Lib.hid hK'; clear hK'
            go_simp
            exact HK'.out _ _ (HK.out _ _ below_rf rfl)
          · intro a w K hb ht hd hK
            have hbw := Lib.hid (below_tr RB6.out hb); clear hb
            obtain ⟨x61, hx61, hp61⟩ := hd 9 _ rfl (by kernel_rfl)
            obtain rfl := hp61
            have es61 : a.tmps.getD 61 undef = _ := getD_of hx61; clear hx61
            obtain ⟨x62, hx62, hp62⟩ := hd 10 _ rfl (by kernel_rfl)
            obtain rfl := hp62
            have es62 : a.tmps.getD 62 undef = _ := getD_of hx62; clear hx62
            obtain ⟨x60, hx60, hp60⟩ := hd 8 _ rfl (by kernel_rfl)
            obtain rfl := hp60
            have es60 : a.tmps.getD 60 undef = _ := getD_of hx60; have gs60 : a.tmps[60]? = some _ := hx60; clear hx60
            clear ht hd
            have HK := Lib.hid hK; clear hK
            refine wpOp_step (by simp only [List.getElem?_toArray, List.getElem?_cons_succ, List.getElem?_cons_zero]; rfl) (fun K' hK' => ?_)
            have HK' := Lib.hid hK'; clear hK'
            go_simp
            refine (diff_Dot _ _ _ _ _ _ _ _ _ _ _ _ _ (FS7_6.out.below hbw.out (Nat.le_refl _)) (FT7_6.out.below hbw.out (Nat.le_refl _)) (FS8_6.out.below hbw.out (Nat.le_refl _)) (FT8_6.out.below hbw.out (Nat.le_refl _)) (fit_sub ia1 ia0) (fit_sub ib1 ib0) (fit_sub ia2 ia0) (fit_sub ib2 ib0)).mono ?_
            rintro e w1 ⟨⟨A, c, rfl, S⟩, B⟩
            go_wp2_with fail
            exact HK'.out _ _ (HK.out _ _ B ⟨A, c, rfl, S⟩)
          · intro a w K hb ht hd hK
            have hbw := Lib.hid (below_tr RB6.out hb); clear hb
            have hx8 := (ht 8 rfl).trans rfl
            have es8 : a.tmps.getD 8 undef = _ := getD_of hx8; clear hx8
            obtain ⟨x60, hx60, hp60⟩ := hd 8 _ rfl (by kernel_rfl)
            obtain rfl := hp60
            have es60 : a.tmps.getD 60 undef = _ := getD_of hx60; have gs60 : a.tmps[60]? = some _ := hx60; clear hx60
            clear ht hd
            have c0 := (FB8_6.out.below hbw.out (Nat.le_refl _)).cell 0 (v := .slice U8 2 u8) rfl
            have c1 := (FB8_6.out.below hbw.out (Nat.le_refl _)).cell 1 (v := .slice V8 2 v8) rfl
            have HK := Lib.hid hK; clear hK
            refine wpOp_step (by simp only [List.getElem?_toArray, List.getElem?_cons_succ, List.getElem?_cons_zero]; rfl) (fun K' hK' => ?_)
            have HK' := Lib.hid hK'; clear hK'
            go_simp
            exact HK'.out _ _ (HK.out _ _ below_rf rfl)
          · intro a w K hb ht hd hK
            have hbw := Lib.hid (below_tr RB6.out hb); clear hb
            have hx7 := (ht 7 rfl).trans rfl
            have es7 : a.tmps.getD 7 undef = _ := getD_of hx7; clear hx7
            obtain ⟨x60, hx60, hp60⟩ := hd 8 _ rfl (by kernel_rfl)
            obtain rfl := hp60
            have es60 : a.tmps.getD 60 undef = _ := getD_of hx60; have gs60 : a.tmps[60]? = some _ := hx60; clear hx60
            clear ht hd
            have c0 := (FB7_6.out.below hbw.out (Nat.le_refl _)).cell 0 (v := .slice U7 2 u7) rfl
            have c1 := (FB7_6.out.below hbw.out (Nat.le_refl _)).cell 1 (v := .slice V7 2 v7) rfl
            have HK := Lib.hid hK; clear hK
            refine wpOp_step (by simp only [List.getElem?_toArray, List.getElem?_cons_succ, List.getElem?_cons_zero]; rfl) (fun K' hK' => ?_)
            have HK' := Lib.hid hK'; clear hK'
            go_simp
            exact HK'.out _ _ (HK.out _ _ below_rf rfl)
          · intro a w K hb ht hd hK
            have hbw := Lib.hid (below_tr RB6.out hb); clear hb
            obtain ⟨x64, hx64, hp64⟩ := hd 12 _ rfl (by kernel_rfl)
            obtain rfl := hp64
            have es64 : a.tmps.getD 64 undef = _ := getD_of hx64; clear hx64
            obtain ⟨x65, hx65, hp65⟩ := hd 13 _ rfl (by kernel_rfl)
            obtain rfl := hp65
            have es65 : a.tmps.getD 65 undef = _ := getD_of hx65; clear hx65
            obtain ⟨x60, hx60, hp60⟩ := hd 8 _ rfl (by kernel_rfl)
            obtain rfl := hp60
            have es60 : a.tmps.getD 60 undef = _ := getD_of hx60; have gs60 : a.tmps[60]? = some _ := hx60; clear hx60
            clear ht hd
            have HK := Lib.hid hK; clear hK
            refine wpOp_step (by simp only [List.getElem?_toArray, List.getElem?_cons_succ, List.getElem?_cons_zero]; rfl) (fun K' hK' => ?_)
            have HK' := Lib.hid hK'; clear hK'
            go_simp
            refine (diff_Dot _ _ _ _ _ _ _ _ _ _ _ _ _ (FS8_6.out.below hbw.out (Nat.le_refl _)) (FT8_6.out.below hbw.out (Nat.le_refl _)) (FS7_6.out.below hbw.out (Nat.le_refl _)) (FT7_6.out.below hbw.out (Nat.le_refl _)) (fit_sub ia2 ia0) (fit_sub ib2 ib0) (fit_sub ia1 ia0) (fit_sub ib1 ib0)).mono ?_
            rintro e w1 ⟨⟨A, c, rfl, S⟩, B⟩
            go_wp2_with fail
            exact HK'.out _ _ (HK.out _ _ B ⟨A, c, rfl, S⟩)
          · intro a w K hb ht hd hK
            have hbw := Lib.hid (below_tr RB6.out hb); clear hb
            obtain ⟨x63, hx63, hp63⟩ := hd 11 _ rfl (by kernel_rfl)
            obtain ⟨A11, c11, rfl, S11⟩ := hp63
            have es63 : a.tmps.getD 63 undef = _ := getD_of hx63; clear hx63
            obtain ⟨x66, hx66, hp66⟩ := hd 14 _ rfl (by kernel_rfl)
            obtain ⟨A14, c14, rfl, S14⟩ := hp66
            have es66 : a.tmps.getD 66 undef = _ := getD_of hx66; clear hx66
            obtain ⟨x60, hx60, hp60⟩ := hd 8 _ rfl (by kernel_rfl)
            obtain rfl := hp60
            have es60 : a.tmps.getD 60 undef = _ := getD_of hx60; have gs60 : a.tmps[60]? = some _ := hx60; clear hx60
            clear ht hd
            have HK := Lib.hid hK; clear hK
            refine wpOp_step (by simp only [List.getElem?_toArray, List.getElem?_cons_succ, List.getElem?_cons_zero]; rfl) (fun K' hK' => ?_)
            have HK' := Lib.hid hK'; clear hK'
            go_simp
            refine (ref3_Same _ _ _ _ _ _ _ _ S11 S14 (fun i _ => congrArg (fun z => lmb z i) HD.out)).mono ?_
            rintro e w1 ⟨rfl, B⟩
            go_wp2_with fail
            exact HK'.out _ _ (HK.out _ _ B rfl)
          · intro a w K hb ht hd hK
            have hbw := Lib.hid (below_tr RB6.out hb); clear hb
            obtain ⟨x60, hx60, hp60⟩ := hd 8 _ rfl (by kernel_rfl)
            obtain rfl := hp60
            have es60 : a.tmps.getD 60 undef = _ := getD_of hx60; clear hx60
            obtain ⟨x67, hx67, hp67⟩ := hd 15 _ rfl (by kernel_rfl)
            obtain rfl := hp67
            have es67 : a.tmps.getD 67 undef = _ := getD_of hx67; clear hx67
            clear ht hd
            have HK := Lib.hid hK; clear hK
            refine wpOp_step (by simp only [List.getElem?_toArray, List.getElem?_cons_succ, List.getElem?_cons_zero]; rfl) (fun K' hK' => ?_)
            have HK' := Lib.hid hK'; clear hK'
            go_simp
            exact HK'.out _ _ (HK.out _ _ below_rf rfl)
          · intro a w K hb ht hd hK
            have hbw := Lib.hid (below_tr RB6.out hb); clear hb
            obtain ⟨x68, hx68, hp68⟩ := hd 16 _ rfl (by kernel_rfl)
            obtain rfl := hp68
            have es68 : a.tmps.getD 68 undef = _ := getD_of hx68; clear hx68
            clear ht hd
            have HK := Lib.hid hK; clear hK
            refine wpOp_step (by simp only [List.getElem?_toArray, List.getElem?_cons_succ, List.getElem?_cons_zero]; rfl) (fun K' hK' => ?_)
            have HK' := Lib.hid hK'; clear hK'
            go_simp
            exact HK'.out _ _ (HK.out _ _ below_rf rfl)
          · intro a w K hb ht hd hK
            have hbw := Lib.hid (below_tr RB6.out hb); clear hb
            have hx10 := (ht 10 rfl).trans rfl
            have es10 : a.tmps.getD 10 undef = _ := getD_of hx10; clear hx10
            obtain ⟨x69, hx69, hp69⟩ := hd 17 _ rfl (by kernel_rfl)
            obtain rfl := hp69
            have es69 : a.tmps.getD 69 undef = _ := getD_of hx69; have gs69 : a.tmps[69]? = some _ := hx69; clear hx69
            clear ht hd
            have c0 := (FB10_6.out.below hbw.out (Nat.le_refl _)).cell 0 (v := .slice U10 2 u10) rfl
            have c1 := (FB10_6.out.below hbw.out (Nat.le_refl _)).cell 1 (v := .slice V10 2 v10) rfl
            have HK := Lib.hid hK; clear hK
            refine wpOp_step (by simp only [List.getElem?_toArray, List.getElem?_cons_succ, List.getElem?_cons_zero]; rfl) (fun K' hK' => ?_)
            have HK' := Lib.hid hK'; clear hK'
            go_simp
            exact HK'.out _ _ (HK.out _ _ below_rf rfl)
          · intro a w K hb ht hd hK
            have hbw := Lib.hid (below_tr RB6.out hb); clear hb
            have hx8 := (ht 8 rfl).trans rfl
            have es8 : a.tmps.getD 8 undef = _ := getD_of hx8; clear hx8
            obtain ⟨x69, hx69, hp69⟩ := hd 17 _ rfl (by kernel_rfl)
            obtain rfl := hp69
            have es69 : a.tmps.getD 69 undef = _ := getD_of hx69; have gs69 : a.tmps[69]? = some _ := hx69; clear hx69
            clear ht hd
            have c0 := (FB8_6.out.below hbw.out (Nat.le_refl _)).cell 0 (v := .slice U8 2 u8) rfl
            have c1 := (FB8_6.out.below hbw.out (Nat.le_refl _)).cell 1 (v := .slice V8 2 v8) rfl
            have HK := Lib.hid hK; clear hK
            refine wpOp_step (by simp only [List.getElem?_toArray, List.getElem?_cons_succ, List.getElem?_cons_zero]; rfl) (fun K' hK' => ?_)
            have HK' := Lib.hid hK'; clear hK'
            go_simp
            exact HK'.out _ _ (HK.out _ _ below_rf rfl)
          · intro a w K hb ht hd hK
            have hbw := Lib.hid (below_tr RB6.out hb); clear hb
            obtain ⟨x70, hx70, hp70⟩ := hd 18 _ rfl (by kernel_rfl)
            obtain rfl := hp70
            have es70 : a.tmps.getD 70 undef = _ := getD_of hx70; clear hx70
            obtain ⟨x71, hx71, hp71⟩ := hd 19 _ rfl (by kernel_rfl)
            obtain rfl := hp71
            have es71 : a.tmps.getD 71 undef = _ := getD_of hx71; clear hx71
            obtain ⟨x69, hx69, hp69⟩ := hd 17 _ rfl (by kernel_rfl)
            obtain rfl := hp69
            have es69 : a.tmps.getD 69 undef = _ := getD_of hx69; have gs69 : a.tmps[69]? = some _ := hx69; clear hx69
            clear ht hd
            have HK := Lib.hid hK; clear hK
            refine wpOp_step (by simp only [List.getElem?_toArray, List.getElem?_cons_succ, List.getElem?_cons_zero]; rfl) (fun K' hK' => ?_)
            have HK' := Lib.hid hK'; clear hK'
            go_simp
            refine (diff_Cross _ _ _ _ _ _ _ _ _ _ _ _ _ (FS10_6.out.below hbw.out (Nat.le_refl _)) (FT10_6.out.below hbw.out (Nat.le_refl _)) (FS8_6.out.below hbw.out (Nat.le_refl _)) (FT8_6.out.below hbw.out (Nat.le_refl _)) (fitN ia1 ia0) (fitN ib1 ib0) (fit_sub ia2 ia0) (fit_sub ib2 ib0)).mono ?_
            rintro e w1 ⟨⟨A, c, rfl, S⟩, B⟩
            go_wp2_with fail
            exact HK'.out _ _ (HK.out _ _ B ⟨A, c, rfl, S⟩)
          · intro a w K hb ht hd hK
            have hbw := Lib.hid (below_tr RB6.out hb); clear hb
            have hx12 := (ht 12 rfl).trans rfl
            have es12 : a.tmps.getD 12 undef = _ := getD_of hx12; clear hx12
            obtain ⟨x69, hx69, hp69⟩ := hd 17 _ rfl (by kernel_rfl)
            obtain rfl := hp69
            have es69 : a.tmps.getD 69 undef = _ := getD_of hx69; have gs69 : a.tmps[69]? = some _ := hx69; clear hx69
            clear ht hd
            have HK := Lib.hid hK; clear hK
            refine wpOp_step (by simp only [List.getElem?_toArray, List.getElem?_cons_succ, List.getElem?_cons_zero]; rfl) (fun K' hK' => ?_)
            have HK' := Lib.hid hK'; clear hK'
            go_simp
            exact HK'.out _ _ (HK.out _ _ below_rf rfl)
          · intro a w K hb ht hd hK
            have hbw := Lib.hid (below_tr RB6.out hb); clear hb
            obtain ⟨x72, hx72, hp72⟩ := hd 20 _ rfl (by kernel_rfl)
            obtain ⟨A20, c20, rfl, S20⟩ := hp72
            have es72 : a.tmps.getD 72 undef = _ := getD_of hx72; clear hx72
            obtain ⟨x73, hx73, hp73⟩ := hd 21 _ rfl (by kernel_rfl)
            obtain rfl := hp73
            have es73 : a.tmps.getD 73 undef = _ := getD_of hx73; clear hx73
            obtain ⟨x69, hx69, hp69⟩ := hd 17 _ rfl (by kernel_rfl)
            obtain rfl := hp69
            have es69 : a.tmps.getD 69 undef = _ := getD_of hx69; have gs69 : a.tmps[69]? = some _ := hx69; clear hx69
            clear ht hd
            have HK := Lib.hid hK; clear hK
            refine wpOp_step (by simp only [List.getElem?_toArray, List.getElem?_cons_succ, List.getElem?_cons_zero]; rfl) (fun K' hK' => ?_)
            have HK' := Lib.hid hK'; clear hK'
            go_simp
            refine (ref3_Same _ _ _ _ _ _ _ _ S20 (FS107.out.below hbw.out (Nat.le_refl _)) (fun i _ => congrArg (fun z => lmb z i) HM.out)).mono ?_
            rintro e w1 ⟨rfl, B⟩
            go_wp2_with fail
            exact HK'.out _ _ (HK.out _ _ B rfl)
          · intro a w K hb ht hd hK
            have hbw := Lib.hid (below_tr RB6.out hb); clear hb
            obtain ⟨x69, hx69, hp69⟩ := hd 17 _ rfl (by kernel_rfl)
            obtain rfl := hp69
            have es69 : a.tmps.getD 69 undef = _ := getD_of hx69; clear hx69
            obtain ⟨x74, hx74, hp74⟩ := hd 22 _ rfl (by kernel_rfl)
            obtain rfl := hp74
            have es74 : a.tmps.getD 74 undef = _ := getD_of hx74; clear hx74
            clear ht hd
            have HK := Lib.hid hK; clear hK
            refine wpOp_step (by simp only [List.getElem?_toArray, List.getElem?_cons_succ, List.getElem?_cons_zero]; rfl) (fun K' hK' => ?_)
            have HK' := Lib.hid hK'; clear hK'
            go_simp
            exact HK'.out _ _ (HK.out _ _ below_rf rfl)
          · intro a w K hb ht hd hK
            have hbw := Lib.hid (below_tr RB6.out hb); clear hb
            obtain ⟨x75, hx75, hp75⟩ := hd 23 _ rfl (by kernel_rfl)
            obtain rfl := hp75
            have es75 : a.tmps.getD 75 undef = _ := getD_of hx75; clear hx75
            clear ht hd
            have HK := Lib.hid hK; clear hK
            refine wpOp_step (by simp only [List.getElem?_toArray, List.getElem?_cons_succ, List.getElem?_cons_zero]; rfl) (fun K' hK' => ?_)
            have HK' := Lib.hid hK'; clear hK'
            go_simp
            exact HK'.out _ _ (HK.out _ _ below_rf rfl)
        · intro w7 X B hb hv hx hd
          simp only [List.foldl_cons, List.foldl_nil, Act.put, List.setIfInBounds_toArray, List.set_cons_zero, List.set_cons_succ, ptrTo]
          obtain ⟨hv0, hv1, hv2, hv3, hv4, hv5, hv6, hv7, hv8, hv9, hv10, hv11, hv12, hv13, hv14, hv15, hv16, hv17, hv18, hv19, hv20, hv21, hv22, hv23, hv24, -⟩ := hv
          clear hd
          have hV0 : (fun x _ => x = .bool true) (X 52) w7 := hv0; clear hv0; have hv0 := hV0; clear hV0; generalize X 52 = X52 at *
          have hV1 : (fun x _ => x = .bool true) (X 53) w7 := hv1; clear hv1; have hv1 := hV1; clear hV1; generalize X 53 = X53 at *
          have hV2 : (fun x _ => x = .slice A106 4 c106) (X 54) w7 := hv2; clear hv2; have hv2 := hV2; clear hV2; generalize X 54 = X54 at *
          have hV3 : (fun x _ => x = .slice A107 4 c107) (X 55) w7 := hv3; clear hv3; have hv3 := hV3; clear hV3; generalize X 55 = X55 at *
          have hV4 : (fun x w => ∃ (A : Option Addr) (n c : Nat), x = .agg #[.int .i64 (sg ((a2 - a0) * (b1 - b0) - (b2 - b0) * (a1 - a0))), .slice A n c] ∧ Nm w A n c ((a2 - a0) * (b1 - b0) - (b2 - b0) * (a1 - a0)) ∧ n ≤ 4 * 4 + 2) (X 56) w7 := hv4; clear hv4; have hv4 := hV4; clear hV4; generalize X 56 = X56 at *
          have hV5 : (fun x w => ∃ (A : Option Addr) (n c : Nat), x = .agg #[.int .i64 (sg (-((a2 - a0) * (b1 - b0) - (b2 - b0) * (a1 - a0)))), .slice A n c] ∧ Nm w A n c (-((a2 - a0) * (b1 - b0) - (b2 - b0) * (a1 - a0))) ∧ n ≤ 4 * 4 + 2) (X 57) w7 := hv5; clear hv5; have hv5 := hV5; clear hV5; generalize X 57 = X57 at *
          have hV6 : (fun x _ => x = .bool true) (X 58) w7 := hv6; clear hv6; have hv6 := hV6; clear hV6; generalize X 58 = X58 at *
          have hV7 : (fun x _ => x = .bool true) (X 59) w7 := hv7; clear hv7; have hv7 := hV7; clear hV7; generalize X 59 = X59 at *
          have hV8 : (fun x _ => x = .bool true) (X 60) w7 := hv8; clear hv8; have hv8 := hV8; clear hV8; generalize X 60 = X60 at *
          have hV9 : (fun x _ => x = .agg #[.slice U7 2 u7, .slice V7 2 v7]) (X 61) w7 := hv9; clear hv9; have hv9 := hV9; clear hV9; generalize X 61 = X61 at *
          have hV10 : (fun x _ => x = .agg #[.slice U8 2 u8, .slice V8 2 v8]) (X 62) w7 := hv10; clear hv10; have hv10 := hV10; clear hV10; generalize X 62 = X62 at *
          have hV11 : (fun x w => ∃ (A : Option Addr) (c : Nat), x = .slice A 4 c ∧ Sl w .u64 A 4 c (lmb ((a1 - a0) * (a2 - a0) + (b1 - b0) * (b2 - b0)))) (X 63) w7 := hv11; clear hv11; have hv11 := hV11; clear hV11; generalize X 63 = X63 at *
          have hV12 : (fun x _ => x = .agg #[.slice U8 2 u8, .slice V8 2 v8]) (X 64) w7 := hv12; clear hv12; have hv12 := hV12; clear hV12; generalize X 64 = X64 at *
          have hV13 : (fun x _ => x = .agg #[.slice U7 2 u7, .slice V7 2 v7]) (X 65) w7 := hv13; clear hv13; have hv13 := hV13; clear hV13; generalize X 65 = X65 at *
          have hV14 : (fun x w => ∃ (A : Option Addr) (c : Nat), x = .slice A 4 c ∧ Sl w .u64 A 4 c (lmb ((a2 - a0) * (a1 - a0) + (b2 - b0) * (b1 - b0)))) (X 66) w7 := hv14; clear hv14; have hv14 := hV14; clear hV14; generalize X 66 = X66 at *
          have hV15 : (fun x _ => x = .bool true) (X 67) w7 := hv15; clear hv15; have hv15 := hV15; clear hV15; generalize X 67 = X67 at *
          have hV16 : (fun x _ => x = .bool true) (X 68) w7 := hv16; clear hv16; have hv16 := hV16; clear hV16; generalize X 68 = X68 at *
          have hV17 : (fun x _ => x = .bool true) (X 69) w7 := hv17; clear hv17; have hv17 := hV17; clear hV17; generalize X 69 = X69 at *
          have hV18 : (fun x _ => x = .agg #[.slice U10 2 u10, .slice V10 2 v10]) (X 70) w7 := hv18; clear hv18; have hv18 := hV18; clear hV18; generalize X 70 = X70 at *
          have hV19 : (fun x _ => x = .agg #[.slice U8 2 u8, .slice V8 2 v8]) (X 71) w7 := hv19; clear hv19; have hv19 := hV19; clear hV19; generalize X 71 = X71 at *
          have hV20 : (fun x w => ∃ (A : Option Addr) (c : Nat), x = .slice A 4 c ∧ Sl w .u64 A 4 c (lmb ((-(a1 - a0)) * (b2 - b0) - (-(b1 - b0)) * (a2 - a0)))) (X 72) w7 := hv20; clear hv20; have hv20 := hV20; clear hV20; generalize X 72 = X72 at *
          have hV21 : (fun x _ => x = .slice A107 4 c107) (X 73) w7 := hv21; clear hv21; have hv21 := hV21; clear hV21; generalize X 73 = X73 at *
          have hV22 : (fun x _ => x = .bool true) (X 74) w7 := hv22; clear hv22; have hv22 := hV22; clear hV22; generalize X 74 = X74 at *
          have hV23 : (fun x _ => x = .bool true) (X 75) w7 := hv23; clear hv23; have hv23 := hV23; clear hV23; generalize X 75 = X75 at *
          have hV24 : (fun x _ => x = .bool true) (X 6) w7 := hv24; clear hv24; have hv24 := hV24; clear hV24; generalize X 6 = X6 at *
          obtain rfl := hv0
          obtain rfl := hv1
          obtain rfl := hv2
          obtain rfl := hv3
          clear hv4
          clear hv5
          obtain rfl := hv6
          obtain rfl := hv7
          obtain rfl := hv8
          obtain rfl := hv9
          obtain rfl := hv10
          clear hv11
          obtain rfl := hv12
          obtain rfl := hv13
          clear hv14
          obtain rfl := hv15
          obtain rfl := hv16
          obtain rfl := hv17
          obtain rfl := hv18
          obtain rfl := hv19
          clear hv20
          obtain rfl := hv21
          obtain rfl := hv22
          obtain rfl := hv23
          obtain rfl := hv24
          have RC := Lib.hid (below_tr RB6.out hb); clear hb
          have FP_7 := Lib.hid (FP_6.out.below RC.out (Nat.le_refl _))
          have FQ_7 := Lib.hid (FQ_6.out.below RC.out (Nat.le_refl _))
          have FR_7 := Lib.hid (FR_6.out.below RC.out (Nat.le_refl _))
          have FB7_7 := Lib.hid (FB7_6.out.below RC.out (Nat.le_refl _))
          have FS7_7 := Lib.hid (FS7_6.out.below RC.out (Nat.le_refl _))
          have FT7_7 := Lib.hid (FT7_6.out.below RC.out (Nat.le_refl _))
          have FB8_7 := Lib.hid (FB8_6.out.below RC.out (Nat.le_refl _))
          have FS8_7 := Lib.hid (FS8_6.out.below RC.out (Nat.le_refl _))
          have FT8_7 := Lib.hid (FT8_6.out.below RC.out (Nat.le_refl _))
          have FB10_7 := Lib.hid (FB10_6.out.below RC.out (Nat.le_refl _))
          have FS10_7 := Lib.hid (FS10_6.out.below RC.out (Nat.le_refl _))
          have FT10_7 := Lib.hid (FT10_6.out.below RC.out (Nat.le_refl _))
          have FS106_7 := Lib.hid (FS106.out.below RC.out (Nat.le_refl _))
          have FS107_7 := Lib.hid (FS107.out.below RC.out (Nat.le_refl _))
          have HB7 := Lib.hid (HB6.out.trans (RC.out.mono HB6.out.size))
          clear HB6 FP_6 FQ_6 FR_6 FB7_6 FS7_6 FT7_6 FB8_6 FS8_6 FT8_6 FB10_6 FS10_6 FT10_6 FS106 FS107 RC RB6
          go_wp2_with fail
          go_ret
          exact ⟨rfl, HB7.out⟩

set_option maxRecDepth 100000 in
theorem lifted (os : Os) (started : os.Started) (H : Type) (enc : TypeId × Value → H) :
    ReturnsInHanded {} Try.checked os 6 .any (Rows.diffSymmetriesSpec.pre6 enc Try.prog Try.f6 Rows.diffSymmetriesRow.domain false) (Rows.diffSymmetriesSpec.post enc Try.prog Try.f6 false true false false) := by
  refine returnsInHanded_of_change (C := Try.checked) own started (by kernel_rfl) Try.func6
    (ChangeSpec.witness6 (enc := enc) (C := Try.checked) false ⟨#[], #[.agg #[.int .i64 0, .int .i64 0], .agg #[.int .i64 0, .int .i64 0], .agg #[.int .i64 0, .int .i64 0]], []⟩ 8 (by kernel_rfl) (by kernel_rfl) (by kernel_rfl) (by kernel_rfl)) ?_
  intro W base args ds gs before hval0 hW hcnd _
  have hval : ∀ (j : Nat) t v, Try.f6.params[j]? = some t → args[j]? = some v → Value.okWide Try.prog W .any base t v := hval0
  have hW' := hW
  obtain ⟨p, q, hA0, hV, rfl, hfz, hnd⟩ := hW
  have hA : DataW.TrodAll enc Try.prog W 0 (fun _ => true) true Try.f6.params.toList args.toList ds p := hA0
  rw [Try.params6] at hA hval
  obtain ⟨v0, vs0, d0, ds0, p0, q0, hargs, rfl, rfl, h0, r0⟩ := trodAll_cons hA
  obtain ⟨v1, vs1, d1, ds1, p1, q1, rfl, rfl, rfl, h1, r1⟩ := trodAll_cons r0
  obtain ⟨v2, vs2, d2, ds2, p2, q2, rfl, rfl, rfl, h2, r2⟩ := trodAll_cons r1
  obtain ⟨rfl, rfl, rfl⟩ := trodAll_nil r2
  obtain rfl : args = #[v0, v1, v2] := by cases args; simp_all
  obtain ⟨rfl, rfl⟩ := trodVars_none hV
  have k0 := h0
  have lt0 : ∀ x ∈ p0, x.block < W.heap.size := by obtain ⟨m, hm⟩ := k0; exact DataW.trod_lt m _ _ _ hm
  have k1 := h1
  have lt1 : ∀ x ∈ p1, x.block < W.heap.size := by obtain ⟨m, hm⟩ := k1; exact DataW.trod_lt m _ _ _ hm
  have k2 := h2
  have lt2 : ∀ x ∈ p2, x.block < W.heap.size := by obtain ⟨m, hm⟩ := k2; exact DataW.trod_lt m _ _ _ hm
  obtain ⟨a0, b0, rfl, w0, x0⟩ := Op.open_pt Try.underlying23 rfl rfl rfl rfl Try.underlying2 (by kernel_rfl) (by kernel_rfl) h0
  obtain ⟨a1, b1, rfl, w1, x1⟩ := Op.open_pt Try.underlying23 rfl rfl rfl rfl Try.underlying2 (by kernel_rfl) (by kernel_rfl) h1
  obtain ⟨a2, b2, rfl, w2, x2⟩ := Op.open_pt Try.underlying23 rfl rfl rfl rfl Try.underlying2 (by kernel_rfl) (by kernel_rfl) h2
  clear hA0 hval0
  refine (walk a0 b0 w0 x0 a1 b1 w1 x1 a2 b2 w2 x2).mono fun e W' ⟨he, bel⟩ => ?_
  subst he
  exact ⟨_, rfl, _, _, _, [], _, [], hW', trodAll_mk1 (shut_bool Try.underlying4 _), (trodAll_cons_mk (Below.trod laidOut (by kernel_rfl) (of_decide_eq_true (by kernel_rfl)) k0 bel lt0) (trodAll_cons_mk (Below.trod laidOut (by kernel_rfl) (of_decide_eq_true (by kernel_rfl)) k1 bel lt1) (trodAll_cons_mk (Below.trod laidOut (by kernel_rfl) (of_decide_eq_true (by kernel_rfl)) k2 bel lt2) trodAll_mk0))), rfl, bel.frame _, fun h => by cases h⟩

theorem over : Rows.diffSymmetriesRow.holds Try.pinned (OpenSpec.ofChange Rows.diffSymmetriesSpec) :=
  OpenClaim.holds_of_wide 6 Try.f6 rfl rfl rfl rfl rfl rfl rfl ⟨rfl, rfl, rfl, rfl, rfl⟩ rfl rfl rfl rfl rfl (by kernel_rfl) Try.func6 (by kernel_rfl)
    (of_decide_eq_true (by kernel_rfl)) (by unfold Func.isWrapper; first | (rw [if_pos (by decide +kernel)]; kernel_rfl) | (rw [if_neg (by decide +kernel)]; exact ⟨rfl, rfl⟩))
    (fun os started H enc _ => lifted os started H enc)

/-- THE STATEMENT -/
theorem proved : Rows.DiffSymmetriesSaid := over
#print axioms proved
end Go.Proofs.Ytfjanlfbnliokaa.diffSymmetries
