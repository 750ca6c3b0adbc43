/- DiffLagrange: for every input the law returns true, and each argument reads afterwards as it read before. -/
import Derived.Test.YtfjanlfbnliokaaRows
import Derived.Test.YtfjanlfbnliokaaLaw5
import Derived.Test.YtfjanlfbnliokaaGeo
import Derived.Test.YtfjanlfbnliokaaOpenPt
import Derived.WalkKit
import Derived.ProofKit
import Derived.OpenShut
import Derived.Below
namespace Go.Proofs.Ytfjanlfbnliokaa.diffLagrange
open Go.ChangeShapes Go.WideShapes Go.ChangeAt Go.RowKit Wd
set_option linter.unusedVariables false
set_option linter.unusedSimpArgs false

theorem own : ownKnob Try.prog.godebug = none := by kernel_rfl
theorem laidOut : laidOutB Try.prog = true := by kernel_rfl

theorem fitN {x y : Int} (hx : IsI x) (hy : IsI y) : Fit 2 (-(x - y)) := by
  unfold Fit IsI at *
  rw [show S 2 = 340282366920938463463374607431768211456 from rfl]; omega
theorem bd_mul {a b c d : Int} (ha : IsI a) (hb : IsI b) (hc : IsI c) (hd : IsI d) : -340282366920938463463374607431768211456 ≤ (a - b) * (c - d) ∧ (a - b) * (c - d) ≤ 340282366920938463463374607431768211456 := by
  unfold IsI at *
  exact abs_mul_le (x := a - b) (y := c - d) (a := 18446744073709551616) (b := 18446744073709551616) ⟨by omega, by omega⟩ ⟨by omega, by omega⟩
theorem fit4s {x y : Int} (hx : -340282366920938463463374607431768211456 ≤ x ∧ x ≤ 340282366920938463463374607431768211456) (hy : -340282366920938463463374607431768211456 ≤ y ∧ y ≤ 340282366920938463463374607431768211456) : Fit 4 (x - y) ∧ Fit 4 (x + y) := by
  unfold Fit
  rw [show S 4 = 115792089237316195423570985008687907853269984665640564039457584007913129639936 from rfl]; omega
theorem nm_neg {w : World} {A : Option Addr} {n c : Nat} {x : Int} (h : Nm w A n c x) : Nm w A n c (-x) := by unfold Nm at *; rw [Int.natAbs_neg]; exact h
theorem sg0 {x : Int} (h : x = 0) : sg x = 0 := by rw [h]; rfl
set_option maxHeartbeats 4000000 in
theorem walk {w : World} (a0 b0 : Int) (w0 : (Lit.int .i64 a0).wf = true) (x0 : (Lit.int .i64 b0).wf = true) (a1 b1 : Int) (w1 : (Lit.int .i64 a1).wf = true) (x1 : (Lit.int .i64 b1).wf = true) (a2 b2 : Int) (w2 : (Lit.int .i64 a2).wf = true) (x2 : (Lit.int .i64 b2).wf = true)  :
    Calls Try.prog 7 #[.agg #[.int .i64 a0, .int .i64 b0], .agg #[.int .i64 a1, .int .i64 b1], .agg #[.int .i64 a2, .int .i64 b2]] w fun e w' => e = .returned (.bool true) ∧ Below w.heap.size w w' := by
  have HB0 := Lib.hid (Below.refl w.heap.size w)
  have ia0 := isI_of_wf w0
  have ib0 := isI_of_wf x0
  have ia1 := isI_of_wf w1
  have ib1 := isI_of_wf x1
  have ia2 := isI_of_wf w2
  have ib2 := isI_of_wf x2
  have hfd : ∀ (s : Int) (V : Option Addr) (k c : Nat) (w : World), (Instr.field 30 (.agg #[.int .i64 s, .slice V k c]) 0).run Try.prog w = .ok (.int .i64 s) w := fun _ _ _ _ _ => by kernel_rfl
  have HZ := Lib.hid (sg0 (show ((a1 - a0) * (b2 - b0) - (b1 - b0) * (a2 - a0)) * ((a1 - a0) * (b2 - b0) - (b1 - b0) * (a2 - a0)) + ((a1 - a0) * (a2 - a0) + (b1 - b0) * (b2 - b0)) * ((a1 - a0) * (a2 - a0) + (b1 - b0) * (b2 - b0)) - ((a1 - a0) * (a1 - a0) + (b1 - b0) * (b1 - b0)) * ((a2 - a0) * (a2 - a0) + (b2 - b0) * (b2 - b0)) = 0 from by grind))
  go_enter Try.func7, Try.ntmps7
  go_wp2_with fail
  have B : Below w.heap.size w (((w.alloc (.cells #[.int .i64 a0, .int .i64 b0] 23)).alloc (.cells #[.int .i64 a1, .int .i64 b1] 23)).alloc (.cells #[.int .i64 a2, .int .i64 b2] 23)) := (((HB0.out.alloc HB0.out.size _).alloc (HB0.out.alloc HB0.out.size _).size _).alloc ((HB0.out.alloc HB0.out.size _).alloc (HB0.out.alloc HB0.out.size _).size _).size _)
  have C : Below w.heap.size w (((w.alloc (.cells #[.int .i64 a0, .int .i64 b0] 23)).alloc (.cells #[.int .i64 a1, .int .i64 b1] 23)).alloc (.cells #[.int .i64 a2, .int .i64 b2] 23)) := ((((Below.refl w.heap.size w).alloc (Nat.le_refl _) _).alloc (by simp; try omega) _).alloc (by simp; try omega) _)
  have X0 : Bx (((w.alloc (.cells #[.int .i64 a0, .int .i64 b0] 23)).alloc (.cells #[.int .i64 a1, .int .i64 b1] 23)).alloc (.cells #[.int .i64 a2, .int .i64 b2] 23)) (w.heap.size) #[.int .i64 a0, .int .i64 b0] 23 := by simpa using (((Bx.new w #[.int .i64 a0, .int .i64 b0] 23).alloc _).alloc _)
  have X1 : Bx (((w.alloc (.cells #[.int .i64 a0, .int .i64 b0] 23)).alloc (.cells #[.int .i64 a1, .int .i64 b1] 23)).alloc (.cells #[.int .i64 a2, .int .i64 b2] 23)) (w.heap.size + 1) #[.int .i64 a1, .int .i64 b1] 23 := by simpa using ((Bx.new (w.alloc (.cells #[.int .i64 a0, .int .i64 b0] 23)) #[.int .i64 a1, .int .i64 b1] 23).alloc _)
  have X2 : Bx (((w.alloc (.cells #[.int .i64 a0, .int .i64 b0] 23)).alloc (.cells #[.int .i64 a1, .int .i64 b1] 23)).alloc (.cells #[.int .i64 a2, .int .i64 b2] 23)) (w.heap.size + 1 + 1) #[.int .i64 a2, .int .i64 b2] 23 := by simpa using (Bx.new ((w.alloc (.cells #[.int .i64 a0, .int .i64 b0] 23)).alloc (.cells #[.int .i64 a1, .int .i64 b1] 23)) #[.int .i64 a2, .int .i64 b2] 23)
  have HB1 := Lib.hid B
  have FP_1 := Lib.hid X0
  have FQ_1 := Lib.hid X1
  have FR_1 := Lib.hid X2
  clear B C X0 X1 X2 HB0 
  generalize (((w.alloc (.cells #[.int .i64 a0, .int .i64 b0] 23)).alloc (.cells #[.int .i64 a1, .int .i64 b1] 23)).alloc (.cells #[.int .i64 a2, .int .i64 b2] 23)) = w1 at *
  have RB1 := Lib.hid (below_drew0 w1)
  refine wp_region_held_drew (S := fun _ => True) (by kernel_rfl) trivial (fun _ => ?_)
  refine wpAnyH_gen [(⟨6, 8, 7, 26, #[.slice none 0 0, .slice none 0 0], []⟩, fun cs w => ∃ (U : Option Addr) (u : Nat) (V : Option Addr) (v : Nat), cs = #[.slice U 2 u, .slice V 2 v] ∧ Sl w .u64 U 2 u (lmb (a1 - a0)) ∧ Sl w .u64 V 2 v (lmb (b1 - b0))), (⟨7, 9, 8, 26, #[.slice none 0 0, .slice none 0 0], []⟩, fun cs w => ∃ (U : Option Addr) (u : Nat) (V : Option Addr) (v : Nat), cs = #[.slice U 2 u, .slice V 2 v] ∧ Sl w .u64 U 2 u (lmb (a2 - a0)) ∧ Sl w .u64 V 2 v (lmb (b2 - b0)))] [⟨0, 17, fun x _ => x = .agg #[.int .i64 a0, .int .i64 b0]⟩, ⟨1, 18, fun x _ => x = .agg #[.int .i64 a1, .int .i64 b1]⟩, ⟨2, 19, fun x w => ∃ (U : Option Addr) (u : Nat) (V : Option Addr) (v : Nat), x = .agg #[.slice U 2 u, .slice V 2 v] ∧ Sl w .u64 U 2 u (lmb (a1 - a0)) ∧ Sl w .u64 V 2 v (lmb (b1 - b0))⟩, ⟨3, 20, fun x _ => x = .agg #[.int .i64 a0, .int .i64 b0]⟩, ⟨4, 21, fun x _ => x = .agg #[.int .i64 a2, .int .i64 b2]⟩, ⟨5, 22, fun x w => ∃ (U : Option Addr) (u : Nat) (V : Option Addr) (v : Nat), x = .agg #[.slice U 2 u, .slice V 2 v] ∧ Sl w .u64 U 2 u (lmb (a2 - a0)) ∧ Sl w .u64 V 2 v (lmb (b2 - b0))⟩] (by kernel_rfl) (by kernel_rfl) (fun _ => trivial) ?_ ?_ ?_ ?_ ?_ ?_
  · refine ⟨?_, ?_, trivial⟩
    all_goals exact ⟨fun cs => by (dsimp only; repeat (first | exact Stay.const _ | exact Stay.sl _ _ _ _ | exact Stay.nm _ _ _ _ | exact Stay.bx _ _ _ _ | refine Stay.ex fun _ => ?_ | refine Stay.and ?_ ?_)), by dsimp only; decide, by simp [NoU]⟩
  · refine ⟨?_, ?_, ?_, ?_, ?_, ?_, trivial⟩
    all_goals (intro x; (dsimp only; repeat (first | exact Stay.const _ | exact Stay.sl _ _ _ _ | exact Stay.nm _ _ _ _ | exact Stay.bx _ _ _ _ | refine Stay.ex fun _ => ?_ | refine Stay.and ?_ ?_)))
  · refine ⟨?_, ?_, trivial⟩
    all_goals (intro a w K h; refine wpOp_step (by simp only [List.getElem?_toArray, List.getElem?_cons_succ, List.getElem?_cons_zero]; rfl) (fun K' hK => ?_); go_simp; exact hK _ _ h)
  · refine ⟨?_, ?_, trivial⟩
    · intro a w B K ht hd hs hb hK
      obtain ⟨x19, hx19, hp19⟩ := hd 2 _ rfl (by kernel_rfl)
      obtain ⟨U2, u2, V2, v2, rfl, S2, T2⟩ := hp19
      have es19 : a.tmps.getD 19 undef = _ := getD_of hx19; clear hx19
      clear ht hd
      have c0 := hb.cell 0 (v := .slice none 0 0) rfl; have z0 := hb.free 0
      have c1 := hb.cell 1 (v := .slice none 0 0) rfl; have z1 := hb.free 1
      have HK := Lib.hid (hK [.slice U2 2 u2, .slice V2 2 v2] rfl (by simp [NoU]) ⟨U2, u2, V2, v2, rfl, S2, T2⟩); clear hK hb
      simp only [ptrTo] at hs
      have esB : a.tmps.getD 7 undef = _ := getD_of hs; clear hs
      refine wpOp_step (by simp only [List.getElem?_toArray, List.getElem?_cons_succ, List.getElem?_cons_zero]; rfl) (fun K' hK' => ?_)
      go_simp
      exact hK' _ _ HK.out
    · intro a w B K ht hd hs hb hK
      obtain ⟨x22, hx22, hp22⟩ := hd 5 _ rfl (by kernel_rfl)
      obtain ⟨U5, u5, V5, v5, rfl, S5, T5⟩ := hp22
      have es22 : a.tmps.getD 22 undef = _ := getD_of hx22; clear hx22
      clear ht hd
      have c0 := hb.cell 0 (v := .slice none 0 0) rfl; have z0 := hb.free 0
      have c1 := hb.cell 1 (v := .slice none 0 0) rfl; have z1 := hb.free 1
      have HK := Lib.hid (hK [.slice U5 2 u5, .slice V5 2 v5] rfl (by simp [NoU]) ⟨U5, u5, V5, v5, rfl, S5, T5⟩); clear hK hb
      simp only [ptrTo] at hs
      have esB : a.tmps.getD 8 undef = _ := getD_of hs; clear hs
      refine wpOp_step (by simp only [List.getElem?_toArray, List.getElem?_cons_succ, List.getElem?_cons_zero]; rfl) (fun K' hK' => ?_)
      go_simp
      exact hK' _ _ HK.out
  · refine ⟨?_, ?_, ?_, ?_, ?_, ?_, trivial⟩
    · intro a w K hb ht hd hK
      have hbw := Lib.hid (below_tr RB1.out hb); clear hb
      have hx3 := (ht 3 rfl).trans rfl
      have es3 : a.tmps.getD 3 undef = _ := getD_of hx3; clear hx3
      clear ht hd
      have c0 := (FP_1.out.below hbw.out (Nat.le_refl _)).cell 0 (v := .int .i64 a0) rfl
      have c1 := (FP_1.out.below hbw.out (Nat.le_refl _)).cell 1 (v := .int .i64 b0) rfl
      have HK := Lib.hid hK; clear hK
      refine wpOp_step (by simp only [List.getElem?_toArray, List.getElem?_cons_succ, List.getElem?_cons_zero]; rfl) (fun K' hK' => ?_)
      have HK' := Lib.hid hK'; clear hK'
      go_simp
      exact HK'.out _ _ (HK.out _ _ below_rf rfl)
    · intro a w K hb ht hd hK
      have hbw := Lib.hid (below_tr RB1.out hb); clear hb
      have hx4 := (ht 4 rfl).trans rfl
      have es4 : a.tmps.getD 4 undef = _ := getD_of hx4; clear hx4
      clear ht hd
      have c0 := (FQ_1.out.below hbw.out (Nat.le_refl _)).cell 0 (v := .int .i64 a1) rfl
      have c1 := (FQ_1.out.below hbw.out (Nat.le_refl _)).cell 1 (v := .int .i64 b1) rfl
      have HK := Lib.hid hK; clear hK
      refine wpOp_step (by simp only [List.getElem?_toArray, List.getElem?_cons_succ, List.getElem?_cons_zero]; rfl) (fun K' hK' => ?_)
      have HK' := Lib.hid hK'; clear hK'
      go_simp
      exact HK'.out _ _ (HK.out _ _ below_rf rfl)
    · intro a w K hb ht hd hK
      have hbw := Lib.hid (below_tr RB1.out hb); clear hb
      obtain ⟨x17, hx17, hp17⟩ := hd 0 _ rfl (by kernel_rfl)
      obtain rfl := hp17
      have es17 : a.tmps.getD 17 undef = _ := getD_of hx17; clear hx17
      obtain ⟨x18, hx18, hp18⟩ := hd 1 _ rfl (by kernel_rfl)
      obtain rfl := hp18
      have es18 : a.tmps.getD 18 undef = _ := getD_of hx18; clear hx18
      clear ht hd
      have HK := Lib.hid hK; clear hK
      refine wpOp_step (by simp only [List.getElem?_toArray, List.getElem?_cons_succ, List.getElem?_cons_zero]; rfl) (fun K' hK' => ?_)
      have HK' := Lib.hid hK'; clear hK'
      go_simp
      refine (diff_Between a0 b0 a1 b1 ia0 ib0 ia1 ib1 _).mono ?_
      rintro e w1 ⟨⟨U, u, V, v, rfl, S, T⟩, B⟩
      go_wp2_with fail
      exact HK'.out _ _ (HK.out _ _ B ⟨U, u, V, v, rfl, S, T⟩)
    · intro a w K hb ht hd hK
      have hbw := Lib.hid (below_tr RB1.out hb); clear hb
      have hx3 := (ht 3 rfl).trans rfl
      have es3 : a.tmps.getD 3 undef = _ := getD_of hx3; clear hx3
      clear ht hd
      have c0 := (FP_1.out.below hbw.out (Nat.le_refl _)).cell 0 (v := .int .i64 a0) rfl
      have c1 := (FP_1.out.below hbw.out (Nat.le_refl _)).cell 1 (v := .int .i64 b0) rfl
      have HK := Lib.hid hK; clear hK
      refine wpOp_step (by simp only [List.getElem?_toArray, List.getElem?_cons_succ, List.getElem?_cons_zero]; rfl) (fun K' hK' => ?_)
      have HK' := Lib.hid hK'; clear hK'
      go_simp
      exact HK'.out _ _ (HK.out _ _ below_rf rfl)
    · intro a w K hb ht hd hK
      have hbw := Lib.hid (below_tr RB1.out hb); clear hb
      have hx5 := (ht 5 rfl).trans rfl
      have es5 : a.tmps.getD 5 undef = _ := getD_of hx5; clear hx5
      clear ht hd
      have c0 := (FR_1.out.below hbw.out (Nat.le_refl _)).cell 0 (v := .int .i64 a2) rfl
      have c1 := (FR_1.out.below hbw.out (Nat.le_refl _)).cell 1 (v := .int .i64 b2) rfl
      have HK := Lib.hid hK; clear hK
      refine wpOp_step (by simp only [List.getElem?_toArray, List.getElem?_cons_succ, List.getElem?_cons_zero]; rfl) (fun K' hK' => ?_)
      have HK' := Lib.hid hK'; clear hK'
      go_simp
      exact HK'.out _ _ (HK.out _ _ below_rf rfl)
    · intro a w K hb ht hd hK
      have hbw := Lib.hid (below_tr RB1.out hb); clear hb
      obtain ⟨x20, hx20, hp20⟩ := hd 3 _ rfl (by kernel_rfl)
      obtain rfl := hp20
      have es20 : a.tmps.getD 20 undef = _ := getD_of hx20; clear hx20
      obtain ⟨x21, hx21, hp21⟩ := hd 4 _ rfl (by kernel_rfl)
      obtain rfl := hp21
      have es21 : a.tmps.getD 21 undef = _ := getD_of hx21; clear hx21
      clear ht hd
      have HK := Lib.hid hK; clear hK
      refine wpOp_step (by simp only [List.getElem?_toArray, List.getElem?_cons_succ, List.getElem?_cons_zero]; rfl) (fun K' hK' => ?_)
      have HK' := Lib.hid hK'; clear hK'
      go_simp
      refine (diff_Between a0 b0 a2 b2 ia0 ib0 ia2 ib2 _).mono ?_
      rintro e w1 ⟨⟨U, u, V, v, rfl, S, T⟩, B⟩
      go_wp2_with fail
      exact HK'.out _ _ (HK.out _ _ B ⟨U, u, V, v, rfl, S, T⟩)
  · intro w2 X B hb hv hx hd
    simp only [List.foldl_cons, List.foldl_nil, Act.put, List.setIfInBounds_toArray, List.set_cons_zero, List.set_cons_succ, ptrTo]
    obtain ⟨hv0, hv1, hv2, hv3, hv4, hv5, -⟩ := hv
    obtain ⟨⟨hn7, cs7, hx7, hg7⟩, ⟨hn8, cs8, hx8, hg8⟩, -⟩ := hx
    clear hd
    have hV0 : (fun x _ => x = .agg #[.int .i64 a0, .int .i64 b0]) (X 17) w2 := hv0; clear hv0; have hv0 := hV0; clear hV0; generalize X 17 = X17 at *
    have hV1 : (fun x _ => x = .agg #[.int .i64 a1, .int .i64 b1]) (X 18) w2 := hv1; clear hv1; have hv1 := hV1; clear hV1; generalize X 18 = X18 at *
    have hV2 : (fun x w => ∃ (U : Option Addr) (u : Nat) (V : Option Addr) (v : Nat), x = .agg #[.slice U 2 u, .slice V 2 v] ∧ Sl w .u64 U 2 u (lmb (a1 - a0)) ∧ Sl w .u64 V 2 v (lmb (b1 - b0))) (X 19) w2 := hv2; clear hv2; have hv2 := hV2; clear hV2; generalize X 19 = X19 at *
    have hV3 : (fun x _ => x = .agg #[.int .i64 a0, .int .i64 b0]) (X 20) w2 := hv3; clear hv3; have hv3 := hV3; clear hV3; generalize X 20 = X20 at *
    have hV4 : (fun x _ => x = .agg #[.int .i64 a2, .int .i64 b2]) (X 21) w2 := hv4; clear hv4; have hv4 := hV4; clear hV4; generalize X 21 = X21 at *
    have hV5 : (fun x w => ∃ (U : Option Addr) (u : Nat) (V : Option Addr) (v : Nat), x = .agg #[.slice U 2 u, .slice V 2 v] ∧ Sl w .u64 U 2 u (lmb (a2 - a0)) ∧ Sl w .u64 V 2 v (lmb (b2 - b0))) (X 22) w2 := hv5; clear hv5; have hv5 := hV5; clear hV5; generalize X 22 = X22 at *
    have hx7' : Bx w2 (B 7) cs7 26 := hx7; clear hx7; generalize B 7 = b7 at *
    have hx8' : Bx w2 (B 8) cs8 26 := hx8; clear hx8; generalize B 8 = b8 at *
    have hn7' : w1.heap.size ≤ b7 := hn7; clear hn7
    have hn8' : w1.heap.size ≤ b8 := hn8; clear hn8
    obtain rfl := hv0
    obtain rfl := hv1
    clear hv2
    obtain rfl := hv3
    obtain rfl := hv4
    clear hv5
    obtain ⟨U7, u7, V7, v7, rfl, S7, T7⟩ := hg7
    obtain ⟨U8, u8, V8, v8, rfl, S8, T8⟩ := hg8
    have RC := Lib.hid (below_tr RB1.out hb); clear hb
    have FP_2 := Lib.hid (FP_1.out.below RC.out (Nat.le_refl _))
    have FQ_2 := Lib.hid (FQ_1.out.below RC.out (Nat.le_refl _))
    have FR_2 := Lib.hid (FR_1.out.below RC.out (Nat.le_refl _))
    have HB2 := Lib.hid (HB1.out.trans (RC.out.mono HB1.out.size))
    clear HB1 FP_1 FQ_1 FR_1 RC RB1
    have FB7 := Lib.hid hx7'; clear hx7'
    have FS7 := Lib.hid S7; clear S7
    have FT7 := Lib.hid T7; clear T7
    have FB8 := Lib.hid hx8'; clear hx8'
    have FS8 := Lib.hid S8; clear S8
    have FT8 := Lib.hid T8; clear T8
    go_wp2_with fail
    have RB2 := Lib.hid (below_drew0 w2)
    refine wp_region_held_drew (S := fun _ => True) (by kernel_rfl) trivial (fun _ => ?_)
    refine wpAnyH_gen [] [⟨0, 23, fun x _ => x = .agg #[.slice U7 2 u7, .slice V7 2 v7]⟩, ⟨1, 24, fun x _ => x = .agg #[.slice U8 2 u8, .slice V8 2 v8]⟩, ⟨2, 25, fun x w => ∃ (A : Option Addr) (c : Nat), x = .slice A 4 c ∧ Sl w .u64 A 4 c (lmb ((a1 - a0) * (b2 - b0) - (b1 - b0) * (a2 - a0)))⟩, ⟨3, 26, fun x _ => x = .agg #[.slice U7 2 u7, .slice V7 2 v7]⟩, ⟨4, 27, fun x _ => x = .agg #[.slice U8 2 u8, .slice V8 2 v8]⟩, ⟨5, 28, fun x w => ∃ (A : Option Addr) (c : Nat), x = .slice A 4 c ∧ Sl w .u64 A 4 c (lmb ((a1 - a0) * (a2 - a0) + (b1 - b0) * (b2 - b0)))⟩, ⟨6, 29, fun x _ => x = .agg #[.slice U7 2 u7, .slice V7 2 v7]⟩, ⟨7, 30, fun x w => ∃ (A : Option Addr) (c : Nat), x = .slice A 4 c ∧ Sl w .u64 A 4 c (lmb ((a1 - a0) * (a1 - a0) + (b1 - b0) * (b1 - b0)))⟩, ⟨8, 31, fun x _ => x = .agg #[.slice U8 2 u8, .slice V8 2 v8]⟩, ⟨9, 32, fun x w => ∃ (A : Option Addr) (c : Nat), x = .slice A 4 c ∧ Sl w .u64 A 4 c (lmb ((a2 - a0) * (a2 - a0) + (b2 - b0) * (b2 - b0)))⟩, ⟨10, 9, fun x w => ∃ (A : Option Addr) (c : Nat), x = .slice A 4 c ∧ Sl w .u64 A 4 c (lmb ((a1 - a0) * (b2 - b0) - (b1 - b0) * (a2 - a0)))⟩, ⟨11, 10, fun x w => ∃ (A : Option Addr) (c : Nat), x = .slice A 4 c ∧ Sl w .u64 A 4 c (lmb ((a1 - a0) * (a2 - a0) + (b1 - b0) * (b2 - b0)))⟩, ⟨12, 11, fun x w => ∃ (A : Option Addr) (c : Nat), x = .slice A 4 c ∧ Sl w .u64 A 4 c (lmb ((a1 - a0) * (a1 - a0) + (b1 - b0) * (b1 - b0)))⟩, ⟨13, 12, fun x w => ∃ (A : Option Addr) (c : Nat), x = .slice A 4 c ∧ Sl w .u64 A 4 c (lmb ((a2 - a0) * (a2 - a0) + (b2 - b0) * (b2 - b0)))⟩] (by kernel_rfl) (by kernel_rfl) (fun _ => trivial) ?_ ?_ ?_ ?_ ?_ ?_
    · exact trivial
    · refine ⟨?_, ?_, ?_, ?_, ?_, ?_, ?_, ?_, ?_, ?_, ?_, ?_, ?_, ?_, trivial⟩
      all_goals (intro x; (dsimp only; repeat (first | exact Stay.const _ | exact Stay.sl _ _ _ _ | exact Stay.nm _ _ _ _ | exact Stay.bx _ _ _ _ | refine Stay.ex fun _ => ?_ | refine Stay.and ?_ ?_)))
    · exact trivial
    · exact trivial
    · refine ⟨?_, ?_, ?_, ?_, ?_, ?_, ?_, ?_, ?_, ?_, ?_, ?_, ?_, ?_, trivial⟩
      · intro a w K hb ht hd hK
        have hbw := Lib.hid (below_tr RB2.out hb); clear hb
        have hx7 := (ht 7 rfl).trans rfl
        have es7 : a.tmps.getD 7 undef = _ := getD_of hx7; clear hx7
        clear ht hd
        have c0 := (FB7.out.below hbw.out (Nat.le_refl _)).cell 0 (v := .slice U7 2 u7) rfl
        have c1 := (FB7.out.below hbw.out (Nat.le_refl _)).cell 1 (v := .slice V7 2 v7) rfl
        have HK := Lib.hid hK; clear hK
        refine wpOp_step (by simp only [List.getElem?_toArray, List.getElem?_cons_succ, List.getElem?_cons_zero]; rfl) (fun K' hK' => ?_)
        have HK' := Lib.hid hK'; clear hK'
        go_simp
        exact HK'.out _ _ (HK.out _ _ below_rf rfl)
      · intro a w K hb ht hd hK
        have hbw := Lib.hid (below_tr RB2.out hb); clear hb
        have hx8 := (ht 8 rfl).trans rfl
        have es8 : a.tmps.getD 8 undef = _ := getD_of hx8; clear hx8
        clear ht hd
        have c0 := (FB8.out.below hbw.out (Nat.le_refl _)).cell 0 (v := .slice U8 2 u8) rfl
        have c1 := (FB8.out.below hbw.out (Nat.le_refl _)).cell 1 (v := .slice V8 2 v8) rfl
        have HK := Lib.hid hK; clear hK
        refine wpOp_step (by simp only [List.getElem?_toArray, List.getElem?_cons_succ, List.getElem?_cons_zero]; rfl) (fun K' hK' => ?_)
        have HK' := Lib.hid hK'; clear hK'
        go_simp
        exact HK'.out _ _ (HK.out _ _ below_rf rfl)
      · intro a w K hb ht hd hK
        have hbw := Lib.hid (below_tr RB2.out hb); clear hb
        obtain ⟨x23, hx23, hp23⟩ := hd 0 _ rfl (by kernel_rfl)
        obtain rfl := hp23
        have es23 : a.tmps.getD 23 undef = _ := getD_of hx23; clear hx23
        obtain ⟨x24, hx24, hp24⟩ := hd 1 _ rfl (by kernel_rfl)
        obtain rfl := hp24
        have es24 : a.tmps.getD 24 undef = _ := getD_of hx24; clear hx24
        clear ht hd
        have HK := Lib.hid hK; clear hK
        refine wpOp_step (by simp only [List.getElem?_toArray, List.getElem?_cons_succ, List.getElem?_cons_zero]; rfl) (fun K' hK' => ?_)
        have HK' := Lib.hid hK'; clear hK'
        go_simp
        refine (diff_Cross _ _ _ _ _ _ _ _ _ _ _ _ _ (FS7.out.below hbw.out (Nat.le_refl _)) (FT7.out.below hbw.out (Nat.le_refl _)) (FS8.out.below hbw.out (Nat.le_refl _)) (FT8.out.below hbw.out (Nat.le_refl _)) (fit_sub ia1 ia0) (fit_sub ib1 ib0) (fit_sub ia2 ia0) (fit_sub ib2 ib0)).mono ?_
        rintro e w1 ⟨⟨A, c, rfl, S⟩, B⟩
        go_wp2_with fail
        exact HK'.out _ _ (HK.out _ _ B ⟨A, c, rfl, S⟩)
      · intro a w K hb ht hd hK
        have hbw := Lib.hid (below_tr RB2.out hb); clear hb
        have hx7 := (ht 7 rfl).trans rfl
        have es7 : a.tmps.getD 7 undef = _ := getD_of hx7; clear hx7
        clear ht hd
        have c0 := (FB7.out.below hbw.out (Nat.le_refl _)).cell 0 (v := .slice U7 2 u7) rfl
        have c1 := (FB7.out.below hbw.out (Nat.le_refl _)).cell 1 (v := .slice V7 2 v7) rfl
        have HK := Lib.hid hK; clear hK
        refine wpOp_step (by simp only [List.getElem?_toArray, List.getElem?_cons_succ, List.getElem?_cons_zero]; rfl) (fun K' hK' => ?_)
        have HK' := Lib.hid hK'; clear hK'
        go_simp
        exact HK'.out _ _ (HK.out _ _ below_rf rfl)
      · intro a w K hb ht hd hK
        have hbw := Lib.hid (below_tr RB2.out hb); clear hb
        have hx8 := (ht 8 rfl).trans rfl
        have es8 : a.tmps.getD 8 undef = _ := getD_of hx8; clear hx8
        clear ht hd
        have c0 := (FB8.out.below hbw.out (Nat.le_refl _)).cell 0 (v := .slice U8 2 u8) rfl
        have c1 := (FB8.out.below hbw.out (Nat.le_refl _)).cell 1 (v := .slice V8 2 v8) rfl
        have HK := Lib.hid hK; clear hK
        refine wpOp_step (by simp only [List.getElem?_toArray, List.getElem?_cons_succ, List.getElem?_cons_zero]; rfl) (fun K' hK' => ?_)
        have HK' := Lib.hid hK'; clear hK'
        go_simp
        exact HK'.out _ _ (HK.out _ _ below_rf rfl)
      · intro a w K hb ht hd hK
        have hbw := Lib.hid (below_tr RB2.out hb); clear hb
        obtain ⟨x26, hx26, hp26⟩ := hd 3 _ rfl (by kernel_rfl)
        obtain rfl := hp26
        have es26 : a.tmps.getD 26 undef = _ := getD_of hx26; clear hx26
        obtain ⟨x27, hx27, hp27⟩ := hd 4 _ rfl (by kernel_rfl)
        obtain rfl := hp27
        have es27 : a.tmps.getD 27 undef = _ := getD_of hx27; clear hx27
        clear ht hd
        have HK := Lib.hid hK; clear hK
        refine wpOp_step (by simp only [List.getElem?_toArray, List.getElem?_cons_succ, List.getElem?_cons_zero]; rfl) (fun K' hK' => ?_)
        have HK' := Lib.hid hK'; clear hK'
        go_simp
        refine (diff_Dot _ _ _ _ _ _ _ _ _ _ _ _ _ (FS7.out.below hbw.out (Nat.le_refl _)) (FT7.out.below hbw.out (Nat.le_refl _)) (FS8.out.below hbw.out (Nat.le_refl _)) (FT8.out.below hbw.out (Nat.le_refl _)) (fit_sub ia1 ia0) (fit_sub ib1 ib0) (fit_sub ia2 ia0) (fit_sub ib2 ib0)).mono ?_
        rintro e w1 ⟨⟨A, c, rfl, S⟩, B⟩
        go_wp2_with fail
        exact HK'.out _ _ (HK.out _ _ B ⟨A, c, rfl, S⟩)
      · intro a w K hb ht hd hK
        have hbw := Lib.hid (below_tr RB2.out hb); clear hb
        have hx7 := (ht 7 rfl).trans rfl
        have es7 : a.tmps.getD 7 undef = _ := getD_of hx7; clear hx7
        clear ht hd
        have c0 := (FB7.out.below hbw.out (Nat.le_refl _)).cell 0 (v := .slice U7 2 u7) rfl
        have c1 := (FB7.out.below hbw.out (Nat.le_refl _)).cell 1 (v := .slice V7 2 v7) rfl
        have HK := Lib.hid hK; clear hK
        refine wpOp_step (by simp only [List.getElem?_toArray, List.getElem?_cons_succ, List.getElem?_cons_zero]; rfl) (fun K' hK' => ?_)
        have HK' := Lib.hid hK'; clear hK'
        go_simp
        exact HK'.out _ _ (HK.out _ _ below_rf rfl)
      · intro a w K hb ht hd hK
        have hbw := Lib.hid (below_tr RB2.out hb); clear hb
        obtain ⟨x29, hx29, hp29⟩ := hd 6 _ rfl (by kernel_rfl)
        obtain rfl := hp29
        have es29 : a.tmps.getD 29 undef = _ := getD_of hx29; clear hx29
        clear ht hd
        have HK := Lib.hid hK; clear hK
        refine wpOp_step (by simp only [List.getElem?_toArray, List.getElem?_cons_succ, List.getElem?_cons_zero]; rfl) (fun K' hK' => ?_)
        have HK' := Lib.hid hK'; clear hK'
        go_simp
        refine (diff_Norm _ _ _ _ _ _ _ (FS7.out.below hbw.out (Nat.le_refl _)) (FT7.out.below hbw.out (Nat.le_refl _)) (fit_sub ia1 ia0) (fit_sub ib1 ib0)).mono ?_
        rintro e w1 ⟨⟨A, c, rfl, S⟩, B⟩
        go_wp2_with fail
        exact HK'.out _ _ (HK.out _ _ B ⟨A, c, rfl, S⟩)
      · intro a w K hb ht hd hK
        have hbw := Lib.hid (below_tr RB2.out hb); clear hb
        have hx8 := (ht 8 rfl).trans rfl
        have es8 : a.tmps.getD 8 undef = _ := getD_of hx8; clear hx8
        clear ht hd
        have c0 := (FB8.out.below hbw.out (Nat.le_refl _)).cell 0 (v := .slice U8 2 u8) rfl
        have c1 := (FB8.out.below hbw.out (Nat.le_refl _)).cell 1 (v := .slice V8 2 v8) rfl
        have HK := Lib.hid hK; clear hK
        refine wpOp_step (by simp only [List.getElem?_toArray, List.getElem?_cons_succ, List.getElem?_cons_zero]; rfl) (fun K' hK' => ?_)
        have HK' := Lib.hid hK'; clear hK'
        go_simp
        exact HK'.out _ _ (HK.out _ _ below_rf rfl)
      · intro a w K hb ht hd hK
        have hbw := Lib.hid (below_tr RB2.out hb); clear hb
        obtain ⟨x31, hx31, hp31⟩ := hd 8 _ rfl (by kernel_rfl)
        obtain rfl := hp31
        have es31 : a.tmps.getD 31 undef = _ := getD_of hx31; clear hx31
        clear ht hd
        have HK := Lib.hid hK; clear hK
        refine wpOp_step (by simp only [List.getElem?_toArray, List.getElem?_cons_succ, List.getElem?_cons_zero]; rfl) (fun K' hK' => ?_)
        have HK' := Lib.hid hK'; clear hK'
        go_simp
        refine (diff_Norm _ _ _ _ _ _ _ (FS8.out.below hbw.out (Nat.le_refl _)) (FT8.out.below hbw.out (Nat.le_refl _)) (fit_sub ia2 ia0) (fit_sub ib2 ib0)).mono ?_
        rintro e w1 ⟨⟨A, c, rfl, S⟩, B⟩
        go_wp2_with fail
        exact HK'.out _ _ (HK.out _ _ B ⟨A, c, rfl, S⟩)
      · intro a w K hb ht hd hK
        have hbw := Lib.hid (below_tr RB2.out hb); clear hb
        obtain ⟨x25, hx25, hp25⟩ := hd 2 _ rfl (by kernel_rfl)
        obtain ⟨A2, c2, rfl, S2⟩ := hp25
        have es25 : a.tmps.getD 25 undef = _ := getD_of hx25; clear hx25
        clear ht hd
        have HK := Lib.hid hK; clear hK
        refine wpOp_step (by simp only [List.getElem?_toArray, List.getElem?_cons_succ, List.getElem?_cons_zero]; rfl) (fun K' hK' => ?_)
        have HK' := Lib.hid hK'; clear hK'
        go_simp
        exact HK'.out _ _ (HK.out _ _ below_rf ⟨A2, c2, rfl, S2⟩)
      · intro a w K hb ht hd hK
        have hbw := Lib.hid (below_tr RB2.out hb); clear hb
        obtain ⟨x28, hx28, hp28⟩ := hd 5 _ rfl (by kernel_rfl)
        obtain ⟨A5, c5, rfl, S5⟩ := hp28
        have es28 : a.tmps.getD 28 undef = _ := getD_of hx28; clear hx28
        clear ht hd
        have HK := Lib.hid hK; clear hK
        refine wpOp_step (by simp only [List.getElem?_toArray, List.getElem?_cons_succ, List.getElem?_cons_zero]; rfl) (fun K' hK' => ?_)
        have HK' := Lib.hid hK'; clear hK'
        go_simp
        exact HK'.out _ _ (HK.out _ _ below_rf ⟨A5, c5, rfl, S5⟩)
      · intro a w K hb ht hd hK
        have hbw := Lib.hid (below_tr RB2.out hb); clear hb
        obtain ⟨x30, hx30, hp30⟩ := hd 7 _ rfl (by kernel_rfl)
        obtain ⟨A7, c7, rfl, S7⟩ := hp30
        have es30 : a.tmps.getD 30 undef = _ := getD_of hx30; clear hx30
        clear ht hd
        have HK := Lib.hid hK; clear hK
        refine wpOp_step (by simp only [List.getElem?_toArray, List.getElem?_cons_succ, List.getElem?_cons_zero]; rfl) (fun K' hK' => ?_)
        have HK' := Lib.hid hK'; clear hK'
        go_simp
        exact HK'.out _ _ (HK.out _ _ below_rf ⟨A7, c7, rfl, S7⟩)
      · intro a w K hb ht hd hK
        have hbw := Lib.hid (below_tr RB2.out hb); clear hb
        obtain ⟨x32, hx32, hp32⟩ := hd 9 _ rfl (by kernel_rfl)
        obtain ⟨A9, c9, rfl, S9⟩ := hp32
        have es32 : a.tmps.getD 32 undef = _ := getD_of hx32; clear hx32
        clear ht hd
        have HK := Lib.hid hK; clear hK
        refine wpOp_step (by simp only [List.getElem?_toArray, List.getElem?_cons_succ, List.getElem?_cons_zero]; rfl) (fun K' hK' => ?_)
        have HK' := Lib.hid hK'; clear hK'
        go_simp
        exact HK'.out _ _ (HK.out _ _ below_rf ⟨A9, c9, rfl, S9⟩)
    · intro w3 X B hb hv hx hd
      simp only [List.foldl_cons, List.foldl_nil, Act.put, List.setIfInBounds_toArray, List.set_cons_zero, List.set_cons_succ, ptrTo]
      obtain ⟨hv0, hv1, hv2, hv3, hv4, hv5, hv6, hv7, hv8, hv9, hv10, hv11, hv12, hv13, -⟩ := hv
      clear hd
      have hV0 : (fun x _ => x = .agg #[.slice U7 2 u7, .slice V7 2 v7]) (X 23) w3 := hv0; clear hv0; have hv0 := hV0; clear hV0; generalize X 23 = X23 at *
      have hV1 : (fun x _ => x = .agg #[.slice U8 2 u8, .slice V8 2 v8]) (X 24) w3 := hv1; clear hv1; have hv1 := hV1; clear hV1; generalize X 24 = X24 at *
      have hV2 : (fun x w => ∃ (A : Option Addr) (c : Nat), x = .slice A 4 c ∧ Sl w .u64 A 4 c (lmb ((a1 - a0) * (b2 - b0) - (b1 - b0) * (a2 - a0)))) (X 25) w3 := hv2; clear hv2; have hv2 := hV2; clear hV2; generalize X 25 = X25 at *
      have hV3 : (fun x _ => x = .agg #[.slice U7 2 u7, .slice V7 2 v7]) (X 26) w3 := hv3; clear hv3; have hv3 := hV3; clear hV3; generalize X 26 = X26 at *
      have hV4 : (fun x _ => x = .agg #[.slice U8 2 u8, .slice V8 2 v8]) (X 27) w3 := hv4; clear hv4; have hv4 := hV4; clear hV4; generalize X 27 = X27 at *
      have hV5 : (fun x w => ∃ (A : Option Addr) (c : Nat), x = .slice A 4 c ∧ Sl w .u64 A 4 c (lmb ((a1 - a0) * (a2 - a0) + (b1 - b0) * (b2 - b0)))) (X 28) w3 := hv5; clear hv5; have hv5 := hV5; clear hV5; generalize X 28 = X28 at *
      have hV6 : (fun x _ => x = .agg #[.slice U7 2 u7, .slice V7 2 v7]) (X 29) w3 := hv6; clear hv6; have hv6 := hV6; clear hV6; generalize X 29 = X29 at *
      have hV7 : (fun x w => ∃ (A : Option Addr) (c : Nat), x = .slice A 4 c ∧ Sl w .u64 A 4 c (lmb ((a1 - a0) * (a1 - a0) + (b1 - b0) * (b1 - b0)))) (X 30) w3 := hv7; clear hv7; have hv7 := hV7; clear hV7; generalize X 30 = X30 at *
      have hV8 : (fun x _ => x = .agg #[.slice U8 2 u8, .slice V8 2 v8]) (X 31) w3 := hv8; clear hv8; have hv8 := hV8; clear hV8; generalize X 31 = X31 at *
      have hV9 : (fun x w => ∃ (A : Option Addr) (c : Nat), x = .slice A 4 c ∧ Sl w .u64 A 4 c (lmb ((a2 - a0) * (a2 - a0) + (b2 - b0) * (b2 - b0)))) (X 32) w3 := hv9; clear hv9; have hv9 := hV9; clear hV9; generalize X 32 = X32 at *
      have hV10 : (fun x w => ∃ (A : Option Addr) (c : Nat), x = .slice A 4 c ∧ Sl w .u64 A 4 c (lmb ((a1 - a0) * (b2 - b0) - (b1 - b0) * (a2 - a0)))) (X 9) w3 := hv10; clear hv10; have hv10 := hV10; clear hV10; generalize X 9 = X9 at *
      have hV11 : (fun x w => ∃ (A : Option Addr) (c : Nat), x = .slice A 4 c ∧ Sl w .u64 A 4 c (lmb ((a1 - a0) * (a2 - a0) + (b1 - b0) * (b2 - b0)))) (X 10) w3 := hv11; clear hv11; have hv11 := hV11; clear hV11; generalize X 10 = X10 at *
      have hV12 : (fun x w => ∃ (A : Option Addr) (c : Nat), x = .slice A 4 c ∧ Sl w .u64 A 4 c (lmb ((a1 - a0) * (a1 - a0) + (b1 - b0) * (b1 - b0)))) (X 11) w3 := hv12; clear hv12; have hv12 := hV12; clear hV12; generalize X 11 = X11 at *
      have hV13 : (fun x w => ∃ (A : Option Addr) (c : Nat), x = .slice A 4 c ∧ Sl w .u64 A 4 c (lmb ((a2 - a0) * (a2 - a0) + (b2 - b0) * (b2 - b0)))) (X 12) w3 := hv13; clear hv13; have hv13 := hV13; clear hV13; generalize X 12 = X12 at *
      obtain rfl := hv0
      obtain rfl := hv1
      clear hv2
      obtain rfl := hv3
      obtain rfl := hv4
      clear hv5
      obtain rfl := hv6
      clear hv7
      obtain rfl := hv8
      clear hv9
      obtain ⟨A110, c110, rfl, S110⟩ := hv10
      obtain ⟨A111, c111, rfl, S111⟩ := hv11
      obtain ⟨A112, c112, rfl, S112⟩ := hv12
      obtain ⟨A113, c113, rfl, S113⟩ := hv13
      have RC := Lib.hid (below_tr RB2.out hb); clear hb
      have FP_3 := Lib.hid (FP_2.out.below RC.out (Nat.le_refl _))
      have FQ_3 := Lib.hid (FQ_2.out.below RC.out (Nat.le_refl _))
      have FR_3 := Lib.hid (FR_2.out.below RC.out (Nat.le_refl _))
      have FB7_3 := Lib.hid (FB7.out.below RC.out (Nat.le_refl _))
      have FS7_3 := Lib.hid (FS7.out.below RC.out (Nat.le_refl _))
      have FT7_3 := Lib.hid (FT7.out.below RC.out (Nat.le_refl _))
      have FB8_3 := Lib.hid (FB8.out.below RC.out (Nat.le_refl _))
      have FS8_3 := Lib.hid (FS8.out.below RC.out (Nat.le_refl _))
      have FT8_3 := Lib.hid (FT8.out.below RC.out (Nat.le_refl _))
      have HB3 := Lib.hid (HB2.out.trans (RC.out.mono HB2.out.size))
      clear HB2 FP_2 FQ_2 FR_2 FB7 FS7 FT7 FB8 FS8 FT8 RC RB2
      have FS110 := Lib.hid S110; clear S110
      have FS111 := Lib.hid S111; clear S111
      have FS112 := Lib.hid S112; clear S112
      have FS113 := Lib.hid S113; clear S113
      go_wp2_with fail
      refine (ref3_Value _ _ _ ((a1 - a0) * (b2 - b0) - (b1 - b0) * (a2 - a0)) _ FS110.out (fit4s (bd_mul ia1 ia0 ib2 ib0) (bd_mul ib1 ib0 ia2 ia0)).1 (by omega)).mono ?_
      rintro e w4 ⟨⟨A13, n13, c13, rfl, b13, N13⟩, B⟩
      have HB4 := Lib.hid (HB3.out.trans (B.mono HB3.out.size))
      have FP_4 := Lib.hid (FP_3.out.below B (Nat.le_refl _))
      have FQ_4 := Lib.hid (FQ_3.out.below B (Nat.le_refl _))
      have FR_4 := Lib.hid (FR_3.out.below B (Nat.le_refl _))
      have FB7_4 := Lib.hid (FB7_3.out.below B (Nat.le_refl _))
      have FS7_4 := Lib.hid (FS7_3.out.below B (Nat.le_refl _))
      have FT7_4 := Lib.hid (FT7_3.out.below B (Nat.le_refl _))
      have FB8_4 := Lib.hid (FB8_3.out.below B (Nat.le_refl _))
      have FS8_4 := Lib.hid (FS8_3.out.below B (Nat.le_refl _))
      have FT8_4 := Lib.hid (FT8_3.out.below B (Nat.le_refl _))
      have FS110_4 := Lib.hid (FS110.out.below B (Nat.le_refl _))
      have FS111_4 := Lib.hid (FS111.out.below B (Nat.le_refl _))
      have FS112_4 := Lib.hid (FS112.out.below B (Nat.le_refl _))
      have FS113_4 := Lib.hid (FS113.out.below B (Nat.le_refl _))
      have FS13_4 := Lib.hid N13
      clear B N13 HB3 FP_3 FQ_3 FR_3 FB7_3 FS7_3 FT7_3 FB8_3 FS8_3 FT8_3 FS110 FS111 FS112 FS113
      go_wp2_with fail
      refine (ref3_Value _ _ _ ((a1 - a0) * (a2 - a0) + (b1 - b0) * (b2 - b0)) _ FS111_4.out (fit4s (bd_mul ia1 ia0 ia2 ia0) (bd_mul ib1 ib0 ib2 ib0)).2 (by omega)).mono ?_
      rintro e w5 ⟨⟨A14, n14, c14, rfl, b14, N14⟩, B⟩
      have HB5 := Lib.hid (HB4.out.trans (B.mono HB4.out.size))
      have FP_5 := Lib.hid (FP_4.out.below B (Nat.le_refl _))
      have FQ_5 := Lib.hid (FQ_4.out.below B (Nat.le_refl _))
      have FR_5 := Lib.hid (FR_4.out.below B (Nat.le_refl _))
      have FB7_5 := Lib.hid (FB7_4.out.below B (Nat.le_refl _))
      have FS7_5 := Lib.hid (FS7_4.out.below B (Nat.le_refl _))
      have FT7_5 := Lib.hid (FT7_4.out.below B (Nat.le_refl _))
      have FB8_5 := Lib.hid (FB8_4.out.below B (Nat.le_refl _))
      have FS8_5 := Lib.hid (FS8_4.out.below B (Nat.le_refl _))
      have FT8_5 := Lib.hid (FT8_4.out.below B (Nat.le_refl _))
      have FS110_5 := Lib.hid (FS110_4.out.below B (Nat.le_refl _))
      have FS111_5 := Lib.hid (FS111_4.out.below B (Nat.le_refl _))
      have FS112_5 := Lib.hid (FS112_4.out.below B (Nat.le_refl _))
      have FS113_5 := Lib.hid (FS113_4.out.below B (Nat.le_refl _))
      have FS13_5 := Lib.hid (FS13_4.out.below B (Nat.le_refl _))
      have FS14_5 := Lib.hid N14
      clear B N14 HB4 FP_4 FQ_4 FR_4 FB7_4 FS7_4 FT7_4 FB8_4 FS8_4 FT8_4 FS110_4 FS111_4 FS112_4 FS113_4 FS13_4
      go_upto_region 6 with (fail)
      have B : Below w.heap.size w ((w5.alloc (.cells #[.int .i64 (sg ((a1 - a0) * (b2 - b0) - (b1 - b0) * (a2 - a0))), .slice A13 n13 c13] 30)).alloc (.cells #[.int .i64 (sg ((a1 - a0) * (a2 - a0) + (b1 - b0) * (b2 - b0))), .slice A14 n14 c14] 30)) := ((HB5.out.alloc HB5.out.size _).alloc (HB5.out.alloc HB5.out.size _).size _)
      have C : Below w5.heap.size w5 ((w5.alloc (.cells #[.int .i64 (sg ((a1 - a0) * (b2 - b0) - (b1 - b0) * (a2 - a0))), .slice A13 n13 c13] 30)).alloc (.cells #[.int .i64 (sg ((a1 - a0) * (a2 - a0) + (b1 - b0) * (b2 - b0))), .slice A14 n14 c14] 30)) := (((Below.refl w5.heap.size w5).alloc (Nat.le_refl _) _).alloc (by simp; try omega) _)
      have X0 : Bx ((w5.alloc (.cells #[.int .i64 (sg ((a1 - a0) * (b2 - b0) - (b1 - b0) * (a2 - a0))), .slice A13 n13 c13] 30)).alloc (.cells #[.int .i64 (sg ((a1 - a0) * (a2 - a0) + (b1 - b0) * (b2 - b0))), .slice A14 n14 c14] 30)) (w5.heap.size) #[.int .i64 (sg ((a1 - a0) * (b2 - b0) - (b1 - b0) * (a2 - a0))), .slice A13 n13 c13] 30 := by simpa using ((Bx.new w5 #[.int .i64 (sg ((a1 - a0) * (b2 - b0) - (b1 - b0) * (a2 - a0))), .slice A13 n13 c13] 30).alloc _)
      have X1 : Bx ((w5.alloc (.cells #[.int .i64 (sg ((a1 - a0) * (b2 - b0) - (b1 - b0) * (a2 - a0))), .slice A13 n13 c13] 30)).alloc (.cells #[.int .i64 (sg ((a1 - a0) * (a2 - a0) + (b1 - b0) * (b2 - b0))), .slice A14 n14 c14] 30)) (w5.heap.size + 1) #[.int .i64 (sg ((a1 - a0) * (a2 - a0) + (b1 - b0) * (b2 - b0))), .slice A14 n14 c14] 30 := by simpa using (Bx.new (w5.alloc (.cells #[.int .i64 (sg ((a1 - a0) * (b2 - b0) - (b1 - b0) * (a2 - a0))), .slice A13 n13 c13] 30)) #[.int .i64 (sg ((a1 - a0) * (a2 - a0) + (b1 - b0) * (b2 - b0))), .slice A14 n14 c14] 30)
      have FP_6 := Lib.hid (FP_5.out.below C (Nat.le_refl _))
      have FQ_6 := Lib.hid (FQ_5.out.below C (Nat.le_refl _))
      have FR_6 := Lib.hid (FR_5.out.below C (Nat.le_refl _))
      have FB7_6 := Lib.hid (FB7_5.out.below C (Nat.le_refl _))
      have FS7_6 := Lib.hid (FS7_5.out.below C (Nat.le_refl _))
      have FT7_6 := Lib.hid (FT7_5.out.below C (Nat.le_refl _))
      have FB8_6 := Lib.hid (FB8_5.out.below C (Nat.le_refl _))
      have FS8_6 := Lib.hid (FS8_5.out.below C (Nat.le_refl _))
      have FT8_6 := Lib.hid (FT8_5.out.below C (Nat.le_refl _))
      have FS110_6 := Lib.hid (FS110_5.out.below C (Nat.le_refl _))
      have FS111_6 := Lib.hid (FS111_5.out.below C (Nat.le_refl _))
      have FS112_6 := Lib.hid (FS112_5.out.below C (Nat.le_refl _))
      have FS113_6 := Lib.hid (FS113_5.out.below C (Nat.le_refl _))
      have FS13_6 := Lib.hid (FS13_5.out.below C (Nat.le_refl _))
      have FS14_6 := Lib.hid (FS14_5.out.below C (Nat.le_refl _))
      have HB6 := Lib.hid B
      have FB13_6 := Lib.hid X0
      have FB14_6 := Lib.hid X1
      clear B C X0 X1 HB5 FP_5 FQ_5 FR_5 FB7_5 FS7_5 FT7_5 FB8_5 FS8_5 FT8_5 FS110_5 FS111_5 FS112_5 FS113_5 FS13_5 FS14_5
      generalize ((w5.alloc (.cells #[.int .i64 (sg ((a1 - a0) * (b2 - b0) - (b1 - b0) * (a2 - a0))), .slice A13 n13 c13] 30)).alloc (.cells #[.int .i64 (sg ((a1 - a0) * (a2 - a0) + (b1 - b0) * (b2 - b0))), .slice A14 n14 c14] 30)) = w6 at *
      have RB6 := Lib.hid (below_drew0 w6)
      refine wp_region_held_drew (S := fun _ => True) (by kernel_rfl) trivial (fun _ => ?_)
      refine wpAnyH_gen [(⟨7, 8, 15, 30, #[.int .i64 0, .slice none 0 0], []⟩, fun cs w => ∃ (A : Option Addr) (n c : Nat), cs = #[.int .i64 (sg (((a1 - a0) * (b2 - b0) - (b1 - b0) * (a2 - a0)) * ((a1 - a0) * (b2 - b0) - (b1 - b0) * (a2 - a0)) + ((a1 - a0) * (a2 - a0) + (b1 - b0) * (b2 - b0)) * ((a1 - a0) * (a2 - a0) + (b1 - b0) * (b2 - b0)))), .slice A n c] ∧ Nm w A n c (((a1 - a0) * (b2 - b0) - (b1 - b0) * (a2 - a0)) * ((a1 - a0) * (b2 - b0) - (b1 - b0) * (a2 - a0)) + ((a1 - a0) * (a2 - a0) + (b1 - b0) * (b2 - b0)) * ((a1 - a0) * (a2 - a0) + (b1 - b0) * (b2 - b0))) ∧ n ≤ 37)] [⟨0, 55, fun x _ => x = .agg #[.int .i64 (sg ((a1 - a0) * (b2 - b0) - (b1 - b0) * (a2 - a0))), .slice A13 n13 c13]⟩, ⟨1, 56, fun x _ => x = .agg #[.int .i64 (sg ((a1 - a0) * (b2 - b0) - (b1 - b0) * (a2 - a0))), .slice A13 n13 c13]⟩, ⟨2, 57, fun x w => ∃ (A : Option Addr) (n c : Nat), x = .agg #[.int .i64 (sg (((a1 - a0) * (b2 - b0) - (b1 - b0) * (a2 - a0)) * ((a1 - a0) * (b2 - b0) - (b1 - b0) * (a2 - a0)))), .slice A n c] ∧ Nm w A n c (((a1 - a0) * (b2 - b0) - (b1 - b0) * (a2 - a0)) * ((a1 - a0) * (b2 - b0) - (b1 - b0) * (a2 - a0))) ∧ n ≤ 36⟩, ⟨3, 58, fun x _ => x = .agg #[.int .i64 (sg ((a1 - a0) * (a2 - a0) + (b1 - b0) * (b2 - b0))), .slice A14 n14 c14]⟩, ⟨4, 59, fun x _ => x = .agg #[.int .i64 (sg ((a1 - a0) * (a2 - a0) + (b1 - b0) * (b2 - b0))), .slice A14 n14 c14]⟩, ⟨5, 60, fun x w => ∃ (A : Option Addr) (n c : Nat), x = .agg #[.int .i64 (sg (((a1 - a0) * (a2 - a0) + (b1 - b0) * (b2 - b0)) * ((a1 - a0) * (a2 - a0) + (b1 - b0) * (b2 - b0)))), .slice A n c] ∧ Nm w A n c (((a1 - a0) * (a2 - a0) + (b1 - b0) * (b2 - b0)) * ((a1 - a0) * (a2 - a0) + (b1 - b0) * (b2 - b0))) ∧ n ≤ 36⟩, ⟨6, 61, fun x w => ∃ (A : Option Addr) (n c : Nat), x = .agg #[.int .i64 (sg (((a1 - a0) * (b2 - b0) - (b1 - b0) * (a2 - a0)) * ((a1 - a0) * (b2 - b0) - (b1 - b0) * (a2 - a0)) + ((a1 - a0) * (a2 - a0) + (b1 - b0) * (b2 - b0)) * ((a1 - a0) * (a2 - a0) + (b1 - b0) * (b2 - b0)))), .slice A n c] ∧ Nm w A n c (((a1 - a0) * (b2 - b0) - (b1 - b0) * (a2 - a0)) * ((a1 - a0) * (b2 - b0) - (b1 - b0) * (a2 - a0)) + ((a1 - a0) * (a2 - a0) + (b1 - b0) * (b2 - b0)) * ((a1 - a0) * (a2 - a0) + (b1 - b0) * (b2 - b0))) ∧ n ≤ 37⟩] (by kernel_rfl) (by kernel_rfl) (fun _ => trivial) ?_ ?_ ?_ ?_ ?_ ?_
      · refine ⟨?_, trivial⟩
        all_goals exact ⟨fun cs => by (dsimp only; repeat (first | exact Stay.const _ | exact Stay.sl _ _ _ _ | exact Stay.nm _ _ _ _ | exact Stay.bx _ _ _ _ | refine Stay.ex fun _ => ?_ | refine Stay.and ?_ ?_)), by dsimp only; decide, by simp [NoU]⟩
      · refine ⟨?_, ?_, ?_, ?_, ?_, ?_, ?_, trivial⟩
        all_goals (intro x; (dsimp only; repeat (first | exact Stay.const _ | exact Stay.sl _ _ _ _ | exact Stay.nm _ _ _ _ | exact Stay.bx _ _ _ _ | refine Stay.ex fun _ => ?_ | refine Stay.and ?_ ?_)))
      · refine ⟨?_, trivial⟩
        all_goals (intro a w K h; refine wpOp_step (by simp only [List.getElem?_toArray, List.getElem?_cons_succ, List.getElem?_cons_zero]; rfl) (fun K' hK => ?_); go_simp; exact hK _ _ h)
      · refine ⟨?_, trivial⟩
        · intro a w B K ht hd hs hb hK
          obtain ⟨x61, hx61, hp61⟩ := hd 6 _ rfl (by kernel_rfl)
          obtain ⟨A6, n6, c6, rfl, S6, b6⟩ := hp61
          have es61 : a.tmps.getD 61 undef = _ := getD_of hx61; clear hx61
          clear ht hd
          have c0 := hb.cell 0 (v := .int .i64 0) rfl; have z0 := hb.free 0
          have c1 := hb.cell 1 (v := .slice none 0 0) rfl; have z1 := hb.free 1
          have HK := Lib.hid (hK [.int .i64 (sg (((a1 - a0) * (b2 - b0) - (b1 - b0) * (a2 - a0)) * ((a1 - a0) * (b2 - b0) - (b1 - b0) * (a2 - a0)) + ((a1 - a0) * (a2 - a0) + (b1 - b0) * (b2 - b0)) * ((a1 - a0) * (a2 - a0) + (b1 - b0) * (b2 - b0)))), .slice A6 n6 c6] rfl (by simp [NoU]) ⟨A6, n6, c6, rfl, S6, b6⟩); clear hK hb
          simp only [ptrTo] at hs
          have esB : a.tmps.getD 15 undef = _ := getD_of hs; clear hs
          refine wpOp_step (by simp only [List.getElem?_toArray, List.getElem?_cons_succ, List.getElem?_cons_zero]; rfl) (fun K' hK' => ?_)
          go_simp
          exact hK' _ _ HK.out
      · refine ⟨?_, ?_, ?_, ?_, ?_, ?_, ?_, trivial⟩
        · intro a w K hb ht hd hK
          have hbw := Lib.hid (below_tr RB6.out hb); clear hb
          have hx13 := (ht 13 rfl).trans rfl
          have es13 : a.tmps.getD 13 undef = _ := getD_of hx13; clear hx13
          clear ht hd
          have c0 := (FB13_6.out.below hbw.out (Nat.le_refl _)).cell 0 (v := .int .i64 (sg ((a1 - a0) * (b2 - b0) - (b1 - b0) * (a2 - a0)))) rfl
          have c1 := (FB13_6.out.below hbw.out (Nat.le_refl _)).cell 1 (v := .slice A13 n13 c13) rfl
          have HK := Lib.hid hK; clear hK
          refine wpOp_step (by simp only [List.getElem?_toArray, List.getElem?_cons_succ, List.getElem?_cons_zero]; rfl) (fun K' hK' => ?_)
          have HK' := Lib.hid hK'; clear hK'
          go_simp
          exact HK'.out _ _ (HK.out _ _ below_rf rfl)
        · intro a w K hb ht hd hK
          have hbw := Lib.hid (below_tr RB6.out hb); clear hb
          have hx13 := (ht 13 rfl).trans rfl
          have es13 : a.tmps.getD 13 undef = _ := getD_of hx13; clear hx13
          clear ht hd
          have c0 := (FB13_6.out.below hbw.out (Nat.le_refl _)).cell 0 (v := .int .i64 (sg ((a1 - a0) * (b2 - b0) - (b1 - b0) * (a2 - a0)))) rfl
          have c1 := (FB13_6.out.below hbw.out (Nat.le_refl _)).cell 1 (v := .slice A13 n13 c13) rfl
          have HK := Lib.hid hK; clear hK
          refine wpOp_step (by simp only [List.getElem?_toArray, List.getElem?_cons_succ, List.getElem?_cons_zero]; rfl) (fun K' hK' => ?_)
          have HK' := Lib.hid hK'; clear hK'
          go_simp
          exact HK'.out _ _ (HK.out _ _ below_rf rfl)
        · intro a w K hb ht hd hK
          have hbw := Lib.hid (below_tr RB6.out hb); clear hb
          obtain ⟨x55, hx55, hp55⟩ := hd 0 _ rfl (by kernel_rfl)
          obtain rfl := hp55
          have es55 : a.tmps.getD 55 undef = _ := getD_of hx55; clear hx55
          obtain ⟨x56, hx56, hp56⟩ := hd 1 _ rfl (by kernel_rfl)
          obtain rfl := hp56
          have es56 : a.tmps.getD 56 undef = _ := getD_of hx56; clear hx56
          clear ht hd
          have HK := Lib.hid hK; clear hK
          refine wpOp_step (by simp only [List.getElem?_toArray, List.getElem?_cons_succ, List.getElem?_cons_zero]; rfl) (fun K' hK' => ?_)
          have HK' := Lib.hid hK'; clear hK'
          go_simp
          refine (ref3_Mul _ _ _ _ _ _ _ _ _ (FS13_6.out.below hbw.out (Nat.le_refl _)) (FS13_6.out.below hbw.out (Nat.le_refl _)) (by omega) (by omega)).mono ?_
          rintro e w1 ⟨⟨A, n, c, rfl, b, S⟩, B⟩
          go_wp2_with fail
          exact HK'.out _ _ (HK.out _ _ B ⟨A, n, c, rfl, S, by omega⟩)
        · intro a w K hb ht hd hK
          have hbw := Lib.hid (below_tr RB6.out hb); clear hb
          have hx14 := (ht 14 rfl).trans rfl
          have es14 : a.tmps.getD 14 undef = _ := getD_of hx14; clear hx14
          clear ht hd
          have c0 := (FB14_6.out.below hbw.out (Nat.le_refl _)).cell 0 (v := .int .i64 (sg ((a1 - a0) * (a2 - a0) + (b1 - b0) * (b2 - b0)))) rfl
          have c1 := (FB14_6.out.below hbw.out (Nat.le_refl _)).cell 1 (v := .slice A14 n14 c14) rfl
          have HK := Lib.hid hK; clear hK
          refine wpOp_step (by simp only [List.getElem?_toArray, List.getElem?_cons_succ, List.getElem?_cons_zero]; rfl) (fun K' hK' => ?_)
          have HK' := Lib.hid hK'; clear hK'
          go_simp
          exact HK'.out _ _ (HK.out _ _ below_rf rfl)
        · intro a w K hb ht hd hK
          have hbw := Lib.hid (below_tr RB6.out hb); clear hb
          have hx14 := (ht 14 rfl).trans rfl
          have es14 : a.tmps.getD 14 undef = _ := getD_of hx14; clear hx14
          clear ht hd
          have c0 := (FB14_6.out.below hbw.out (Nat.le_refl _)).cell 0 (v := .int .i64 (sg ((a1 - a0) * (a2 - a0) + (b1 - b0) * (b2 - b0)))) rfl
          have c1 := (FB14_6.out.below hbw.out (Nat.le_refl _)).cell 1 (v := .slice A14 n14 c14) rfl
          have HK := Lib.hid hK; clear hK
          refine wpOp_step (by simp only [List.getElem?_toArray, List.getElem?_cons_succ, List.getElem?_cons_zero]; rfl) (fun K' hK' => ?_)
          have HK' := Lib.hid hK'; clear hK'
          go_simp
          exact HK'.out _ _ (HK.out _ _ below_rf rfl)
        · intro a w K hb ht hd hK
          have hbw := Lib.hid (below_tr RB6.out hb); clear hb
          obtain ⟨x58, hx58, hp58⟩ := hd 3 _ rfl (by kernel_rfl)
          obtain rfl := hp58
          have es58 : a.tmps.getD 58 undef = _ := getD_of hx58; clear hx58
          obtain ⟨x59, hx59, hp59⟩ := hd 4 _ rfl (by kernel_rfl)
          obtain rfl := hp59
          have es59 : a.tmps.getD 59 undef = _ := getD_of hx59; clear hx59
          clear ht hd
          have HK := Lib.hid hK; clear hK
          refine wpOp_step (by simp only [List.getElem?_toArray, List.getElem?_cons_succ, List.getElem?_cons_zero]; rfl) (fun K' hK' => ?_)
          have HK' := Lib.hid hK'; clear hK'
          go_simp
          refine (ref3_Mul _ _ _ _ _ _ _ _ _ (FS14_6.out.below hbw.out (Nat.le_refl _)) (FS14_6.out.below hbw.out (Nat.le_refl _)) (by omega) (by omega)).mono ?_
          rintro e w1 ⟨⟨A, n, c, rfl, b, S⟩, B⟩
          go_wp2_with fail
          exact HK'.out _ _ (HK.out _ _ B ⟨A, n, c, rfl, S, by omega⟩)
        · intro a w K hb ht hd hK
          have hbw := Lib.hid (below_tr RB6.out hb); clear hb
          obtain ⟨x57, hx57, hp57⟩ := hd 2 _ rfl (by kernel_rfl)
          obtain ⟨A2, n2, c2, rfl, S2, b2⟩ := hp57
          have es57 : a.tmps.getD 57 undef = _ := getD_of hx57; clear hx57
          obtain ⟨x60, hx60, hp60⟩ := hd 5 _ rfl (by kernel_rfl)
          obtain ⟨A5, n5, c5, rfl, S5, b5⟩ := hp60
          have es60 : a.tmps.getD 60 undef = _ := getD_of hx60; clear hx60
          clear ht hd
          have HK := Lib.hid hK; clear hK
          refine wpOp_step (by simp only [List.getElem?_toArray, List.getElem?_cons_succ, List.getElem?_cons_zero]; rfl) (fun K' hK' => ?_)
          have HK' := Lib.hid hK'; clear hK'
          go_simp
          refine (ref3_Add _ _ _ _ _ _ _ _ _ S2 S5 (by omega) (by omega)).mono ?_
          rintro e w1 ⟨⟨A, n, c, rfl, b, S⟩, B⟩
          go_wp2_with fail
          exact HK'.out _ _ (HK.out _ _ B ⟨A, n, c, rfl, S, by omega⟩)
      · intro w7 X B hb hv hx hd
        simp only [List.foldl_cons, List.foldl_nil, Act.put, List.setIfInBounds_toArray, List.set_cons_zero, List.set_cons_succ, ptrTo]
        obtain ⟨hv0, hv1, hv2, hv3, hv4, hv5, hv6, -⟩ := hv
        obtain ⟨⟨hn15, cs15, hx15, hg15⟩, -⟩ := hx
        clear hd
        have hV0 : (fun x _ => x = .agg #[.int .i64 (sg ((a1 - a0) * (b2 - b0) - (b1 - b0) * (a2 - a0))), .slice A13 n13 c13]) (X 55) w7 := hv0; clear hv0; have hv0 := hV0; clear hV0; generalize X 55 = X55 at *
        have hV1 : (fun x _ => x = .agg #[.int .i64 (sg ((a1 - a0) * (b2 - b0) - (b1 - b0) * (a2 - a0))), .slice A13 n13 c13]) (X 56) w7 := hv1; clear hv1; have hv1 := hV1; clear hV1; generalize X 56 = X56 at *
        have hV2 : (fun x w => ∃ (A : Option Addr) (n c : Nat), x = .agg #[.int .i64 (sg (((a1 - a0) * (b2 - b0) - (b1 - b0) * (a2 - a0)) * ((a1 - a0) * (b2 - b0) - (b1 - b0) * (a2 - a0)))), .slice A n c] ∧ Nm w A n c (((a1 - a0) * (b2 - b0) - (b1 - b0) * (a2 - a0)) * ((a1 - a0) * (b2 - b0) - (b1 - b0) * (a2 - a0))) ∧ n ≤ 36) (X 57) w7 := hv2; clear hv2; have hv2 := hV2; clear hV2; generalize X 57 = X57 at *
        have hV3 : (fun x _ => x = .agg #[.int .i64 (sg ((a1 - a0) * (a2 - a0) + (b1 - b0) * (b2 - b0))), .slice A14 n14 c14]) (X 58) w7 := hv3; clear hv3; have hv3 := hV3; clear hV3; generalize X 58 = X58 at *
        have hV4 : (fun x _ => x = .agg #[.int .i64 (sg ((a1 - a0) * (a2 - a0) + (b1 - b0) * (b2 - b0))), .slice A14 n14 c14]) (X 59) w7 := hv4; clear hv4; have hv4 := hV4; clear hV4; generalize X 59 = X59 at *
        have hV5 : (fun x w => ∃ (A : Option Addr) (n c : Nat), x = .agg #[.int .i64 (sg (((a1 - a0) * (a2 - a0) + (b1 - b0) * (b2 - b0)) * ((a1 - a0) * (a2 - a0) + (b1 - b0) * (b2 - b0)))), .slice A n c] ∧ Nm w A n c (((a1 - a0) * (a2 - a0) + (b1 - b0) * (b2 - b0)) * ((a1 - a0) * (a2 - a0) + (b1 - b0) * (b2 - b0))) ∧ n ≤ 36) (X 60) w7 := hv5; clear hv5; have hv5 := hV5; clear hV5; generalize X 60 = X60 at *
        have hV6 : (fun x w => ∃ (A : Option Addr) (n c : Nat), x = .agg #[.int .i64 (sg (((a1 - a0) * (b2 - b0) - (b1 - b0) * (a2 - a0)) * ((a1 - a0) * (b2 - b0) - (b1 - b0) * (a2 - a0)) + ((a1 - a0) * (a2 - a0) + (b1 - b0) * (b2 - b0)) * ((a1 - a0) * (a2 - a0) + (b1 - b0) * (b2 - b0)))), .slice A n c] ∧ Nm w A n c (((a1 - a0) * (b2 - b0) - (b1 - b0) * (a2 - a0)) * ((a1 - a0) * (b2 - b0) - (b1 - b0) * (a2 - a0)) + ((a1 - a0) * (a2 - a0) + (b1 - b0) * (b2 - b0)) * ((a1 - a0) * (a2 - a0) + (b1 - b0) * (b2 - b0))) ∧ n ≤ 37) (X 61) w7 := hv6; clear hv6; have hv6 := hV6; clear hV6; generalize X 61 = X61 at *
        have hx15' : Bx w7 (B 15) cs15 30 := hx15; clear hx15; generalize B 15 = b15 at *
        have hn15' : w6.heap.size ≤ b15 := hn15; clear hn15
        obtain rfl := hv0
        obtain rfl := hv1
        clear hv2
        obtain rfl := hv3
        obtain rfl := hv4
        clear hv5
        clear hv6
        obtain ⟨A15, n15, c15, rfl, S15, b15⟩ := hg15
        have RC := Lib.hid (below_tr RB6.out hb); clear hb
        have FP_7 := Lib.hid (FP_6.out.below RC.out (Nat.le_refl _))
        have FQ_7 := Lib.hid (FQ_6.out.below RC.out (Nat.le_refl _))
        have FR_7 := Lib.hid (FR_6.out.below RC.out (Nat.le_refl _))
        have FB7_7 := Lib.hid (FB7_6.out.below RC.out (Nat.le_refl _))
        have FS7_7 := Lib.hid (FS7_6.out.below RC.out (Nat.le_refl _))
        have FT7_7 := Lib.hid (FT7_6.out.below RC.out (Nat.le_refl _))
        have FB8_7 := Lib.hid (FB8_6.out.below RC.out (Nat.le_refl _))
        have FS8_7 := Lib.hid (FS8_6.out.below RC.out (Nat.le_refl _))
        have FT8_7 := Lib.hid (FT8_6.out.below RC.out (Nat.le_refl _))
        have FS110_7 := Lib.hid (FS110_6.out.below RC.out (Nat.le_refl _))
        have FS111_7 := Lib.hid (FS111_6.out.below RC.out (Nat.le_refl _))
        have FS112_7 := Lib.hid (FS112_6.out.below RC.out (Nat.le_refl _))
        have FS113_7 := Lib.hid (FS113_6.out.below RC.out (Nat.le_refl _))
        have FS13_7 := Lib.hid (FS13_6.out.below RC.out (Nat.le_refl _))
        have FS14_7 := Lib.hid (FS14_6.out.below RC.out (Nat.le_refl _))
        have FB13_7 := Lib.hid (FB13_6.out.below RC.out (Nat.le_refl _))
        have FB14_7 := Lib.hid (FB14_6.out.below RC.out (Nat.le_refl _))
        have HB7 := Lib.hid (HB6.out.trans (RC.out.mono HB6.out.size))
        clear HB6 FP_6 FQ_6 FR_6 FB7_6 FS7_6 FT7_6 FB8_6 FS8_6 FT8_6 FS110_6 FS111_6 FS112_6 FS113_6 FS13_6 FS14_6 FB13_6 FB14_6 RC RB6
        have FB15 := Lib.hid hx15'; clear hx15'
        have FS15 := Lib.hid S15; clear S15
        go_wp2_with fail
        refine (ref3_Value _ _ _ ((a1 - a0) * (a1 - a0) + (b1 - b0) * (b1 - b0)) _ FS112_7.out (fit4s (bd_mul ia1 ia0 ia1 ia0) (bd_mul ib1 ib0 ib1 ib0)).2 (by omega)).mono ?_
        rintro e w8 ⟨⟨A17, n17, c17, rfl, b17, N17⟩, B⟩
        have HB8 := Lib.hid (HB7.out.trans (B.mono HB7.out.size))
        have FP_8 := Lib.hid (FP_7.out.below B (Nat.le_refl _))
        have FQ_8 := Lib.hid (FQ_7.out.below B (Nat.le_refl _))
        have FR_8 := Lib.hid (FR_7.out.below B (Nat.le_refl _))
        have FB7_8 := Lib.hid (FB7_7.out.below B (Nat.le_refl _))
        have FS7_8 := Lib.hid (FS7_7.out.below B (Nat.le_refl _))
        have FT7_8 := Lib.hid (FT7_7.out.below B (Nat.le_refl _))
        have FB8_8 := Lib.hid (FB8_7.out.below B (Nat.le_refl _))
        have FS8_8 := Lib.hid (FS8_7.out.below B (Nat.le_refl _))
        have FT8_8 := Lib.hid (FT8_7.out.below B (Nat.le_refl _))
        have FS110_8 := Lib.hid (FS110_7.out.below B (Nat.le_refl _))
        have FS111_8 := Lib.hid (FS111_7.out.below B (Nat.le_refl _))
        have FS112_8 := Lib.hid (FS112_7.out.below B (Nat.le_refl _))
        have FS113_8 := Lib.hid (FS113_7.out.below B (Nat.le_refl _))
        have FS13_8 := Lib.hid (FS13_7.out.below B (Nat.le_refl _))
        have FS14_8 := Lib.hid (FS14_7.out.below B (Nat.le_refl _))
        have FB15_8 := Lib.hid (FB15.out.below B (Nat.le_refl _))
        have FS15_8 := Lib.hid (FS15.out.below B (Nat.le_refl _))
        have FS17_8 := Lib.hid N17
        clear B N17 HB7 FP_7 FQ_7 FR_7 FB7_7 FS7_7 FT7_7 FB8_7 FS8_7 FT8_7 FS110_7 FS111_7 FS112_7 FS113_7 FS13_7 FS14_7 FB15 FS15
        go_wp2_with fail
        refine (ref3_Value _ _ _ ((a2 - a0) * (a2 - a0) + (b2 - b0) * (b2 - b0)) _ FS113_8.out (fit4s (bd_mul ia2 ia0 ia2 ia0) (bd_mul ib2 ib0 ib2 ib0)).2 (by omega)).mono ?_
        rintro e w9 ⟨⟨A18, n18, c18, rfl, b18, N18⟩, B⟩
        have HB9 := Lib.hid (HB8.out.trans (B.mono HB8.out.size))
        have FP_9 := Lib.hid (FP_8.out.below B (Nat.le_refl _))
        have FQ_9 := Lib.hid (FQ_8.out.below B (Nat.le_refl _))
        have FR_9 := Lib.hid (FR_8.out.below B (Nat.le_refl _))
        have FB7_9 := Lib.hid (FB7_8.out.below B (Nat.le_refl _))
        have FS7_9 := Lib.hid (FS7_8.out.below B (Nat.le_refl _))
        have FT7_9 := Lib.hid (FT7_8.out.below B (Nat.le_refl _))
        have FB8_9 := Lib.hid (FB8_8.out.below B (Nat.le_refl _))
        have FS8_9 := Lib.hid (FS8_8.out.below B (Nat.le_refl _))
        have FT8_9 := Lib.hid (FT8_8.out.below B (Nat.le_refl _))
        have FS110_9 := Lib.hid (FS110_8.out.below B (Nat.le_refl _))
        have FS111_9 := Lib.hid (FS111_8.out.below B (Nat.le_refl _))
        have FS112_9 := Lib.hid (FS112_8.out.below B (Nat.le_refl _))
        have FS113_9 := Lib.hid (FS113_8.out.below B (Nat.le_refl _))
        have FS13_9 := Lib.hid (FS13_8.out.below B (Nat.le_refl _))
        have FS14_9 := Lib.hid (FS14_8.out.below B (Nat.le_refl _))
        have FB15_9 := Lib.hid (FB15_8.out.below B (Nat.le_refl _))
        have FS15_9 := Lib.hid (FS15_8.out.below B (Nat.le_refl _))
        have FS17_9 := Lib.hid (FS17_8.out.below B (Nat.le_refl _))
        have FS18_9 := Lib.hid N18
        clear B N18 HB8 FP_8 FQ_8 FR_8 FB7_8 FS7_8 FT7_8 FB8_8 FS8_8 FT8_8 FS110_8 FS111_8 FS112_8 FS113_8 FS13_8 FS14_8 FB15_8 FS15_8 FS17_8
        go_wp2_with fail
        refine (ref3_Mul _ _ _ _ _ _ _ _ _ FS17_9.out FS18_9.out (by omega) (by omega)).mono ?_
        rintro e w10 ⟨⟨A16, n16, c16, rfl, b16, N16⟩, B⟩
        have HB10 := Lib.hid (HB9.out.trans (B.mono HB9.out.size))
        have FP_10 := Lib.hid (FP_9.out.below B (Nat.le_refl _))
        have FQ_10 := Lib.hid (FQ_9.out.below B (Nat.le_refl _))
        have FR_10 := Lib.hid (FR_9.out.below B (Nat.le_refl _))
        have FB7_10 := Lib.hid (FB7_9.out.below B (Nat.le_refl _))
        have FS7_10 := Lib.hid (FS7_9.out.below B (Nat.le_refl _))
        have FT7_10 := Lib.hid (FT7_9.out.below B (Nat.le_refl _))
        have FB8_10 := Lib.hid (FB8_9.out.below B (Nat.le_refl _))
        have FS8_10 := Lib.hid (FS8_9.out.below B (Nat.le_refl _))
        have FT8_10 := Lib.hid (FT8_9.out.below B (Nat.le_refl _))
        have FS110_10 := Lib.hid (FS110_9.out.below B (Nat.le_refl _))
        have FS111_10 := Lib.hid (FS111_9.out.below B (Nat.le_refl _))
        have FS112_10 := Lib.hid (FS112_9.out.below B (Nat.le_refl _))
        have FS113_10 := Lib.hid (FS113_9.out.below B (Nat.le_refl _))
        have FS13_10 := Lib.hid (FS13_9.out.below B (Nat.le_refl _))
        have FS14_10 := Lib.hid (FS14_9.out.below B (Nat.le_refl _))
        have FB15_10 := Lib.hid (FB15_9.out.below B (Nat.le_refl _))
        have FS15_10 := Lib.hid (FS15_9.out.below B (Nat.le_refl _))
        have FS17_10 := Lib.hid (FS17_9.out.below B (Nat.le_refl _))
        have FS18_10 := Lib.hid (FS18_9.out.below B (Nat.le_refl _))
        have FS16_10 := Lib.hid N16
        clear B N16 HB9 FP_9 FQ_9 FR_9 FB7_9 FS7_9 FT7_9 FB8_9 FS8_9 FT8_9 FS110_9 FS111_9 FS112_9 FS113_9 FS13_9 FS14_9 FB15_9 FS15_9 FS17_9 FS18_9
        go_upto_region 8 with (fail)
        have B : Below w.heap.size w (w10.alloc (.cells #[.int .i64 (sg (((a1 - a0) * (a1 - a0) + (b1 - b0) * (b1 - b0)) * ((a2 - a0) * (a2 - a0) + (b2 - b0) * (b2 - b0)))), .slice A16 n16 c16] 30)) := (HB10.out.alloc HB10.out.size _)
        have C : Below w10.heap.size w10 (w10.alloc (.cells #[.int .i64 (sg (((a1 - a0) * (a1 - a0) + (b1 - b0) * (b1 - b0)) * ((a2 - a0) * (a2 - a0) + (b2 - b0) * (b2 - b0)))), .slice A16 n16 c16] 30)) := ((Below.refl w10.heap.size w10).alloc (Nat.le_refl _) _)
        have X0 : Bx (w10.alloc (.cells #[.int .i64 (sg (((a1 - a0) * (a1 - a0) + (b1 - b0) * (b1 - b0)) * ((a2 - a0) * (a2 - a0) + (b2 - b0) * (b2 - b0)))), .slice A16 n16 c16] 30)) (w10.heap.size) #[.int .i64 (sg (((a1 - a0) * (a1 - a0) + (b1 - b0) * (b1 - b0)) * ((a2 - a0) * (a2 - a0) + (b2 - b0) * (b2 - b0)))), .slice A16 n16 c16] 30 := by simpa using (Bx.new w10 #[.int .i64 (sg (((a1 - a0) * (a1 - a0) + (b1 - b0) * (b1 - b0)) * ((a2 - a0) * (a2 - a0) + (b2 - b0) * (b2 - b0)))), .slice A16 n16 c16] 30)
        have FP_11 := Lib.hid (FP_10.out.below C (Nat.le_refl _))
        have FQ_11 := Lib.hid (FQ_10.out.below C (Nat.le_refl _))
        have FR_11 := Lib.hid (FR_10.out.below C (Nat.le_refl _))
        have FB7_11 := Lib.hid (FB7_10.out.below C (Nat.le_refl _))
        have FS7_11 := Lib.hid (FS7_10.out.below C (Nat.le_refl _))
        have FT7_11 := Lib.hid (FT7_10.out.below C (Nat.le_refl _))
        have FB8_11 := Lib.hid (FB8_10.out.below C (Nat.le_refl _))
        have FS8_11 := Lib.hid (FS8_10.out.below C (Nat.le_refl _))
        have FT8_11 := Lib.hid (FT8_10.out.below C (Nat.le_refl _))
        have FS110_11 := Lib.hid (FS110_10.out.below C (Nat.le_refl _))
        have FS111_11 := Lib.hid (FS111_10.out.below C (Nat.le_refl _))
        have FS112_11 := Lib.hid (FS112_10.out.below C (Nat.le_refl _))
        have FS113_11 := Lib.hid (FS113_10.out.below C (Nat.le_refl _))
        have FS13_11 := Lib.hid (FS13_10.out.below C (Nat.le_refl _))
        have FS14_11 := Lib.hid (FS14_10.out.below C (Nat.le_refl _))
        have FB15_11 := Lib.hid (FB15_10.out.below C (Nat.le_refl _))
        have FS15_11 := Lib.hid (FS15_10.out.below C (Nat.le_refl _))
        have FS17_11 := Lib.hid (FS17_10.out.below C (Nat.le_refl _))
        have FS18_11 := Lib.hid (FS18_10.out.below C (Nat.le_refl _))
        have FS16_11 := Lib.hid (FS16_10.out.below C (Nat.le_refl _))
        have HB11 := Lib.hid B
        have FB16_11 := Lib.hid X0
        clear B C X0 HB10 FP_10 FQ_10 FR_10 FB7_10 FS7_10 FT7_10 FB8_10 FS8_10 FT8_10 FS110_10 FS111_10 FS112_10 FS113_10 FS13_10 FS14_10 FB15_10 FS15_10 FS17_10 FS18_10 FS16_10
        generalize (w10.alloc (.cells #[.int .i64 (sg (((a1 - a0) * (a1 - a0) + (b1 - b0) * (b1 - b0)) * ((a2 - a0) * (a2 - a0) + (b2 - b0) * (b2 - b0)))), .slice A16 n16 c16] 30)) = w11 at *
        go_wp2_with fail
        refine (alive5 _).mono ?_
        rintro e w12 ⟨rfl, B⟩
        have HB12 := Lib.hid (HB11.out.trans (B.mono HB11.out.size))
        have FP_12 := Lib.hid (FP_11.out.below B (Nat.le_refl _))
        have FQ_12 := Lib.hid (FQ_11.out.below B (Nat.le_refl _))
        have FR_12 := Lib.hid (FR_11.out.below B (Nat.le_refl _))
        have FB7_12 := Lib.hid (FB7_11.out.below B (Nat.le_refl _))
        have FS7_12 := Lib.hid (FS7_11.out.below B (Nat.le_refl _))
        have FT7_12 := Lib.hid (FT7_11.out.below B (Nat.le_refl _))
        have FB8_12 := Lib.hid (FB8_11.out.below B (Nat.le_refl _))
        have FS8_12 := Lib.hid (FS8_11.out.below B (Nat.le_refl _))
        have FT8_12 := Lib.hid (FT8_11.out.below B (Nat.le_refl _))
        have FS110_12 := Lib.hid (FS110_11.out.below B (Nat.le_refl _))
        have FS111_12 := Lib.hid (FS111_11.out.below B (Nat.le_refl _))
        have FS112_12 := Lib.hid (FS112_11.out.below B (Nat.le_refl _))
        have FS113_12 := Lib.hid (FS113_11.out.below B (Nat.le_refl _))
        have FS13_12 := Lib.hid (FS13_11.out.below B (Nat.le_refl _))
        have FS14_12 := Lib.hid (FS14_11.out.below B (Nat.le_refl _))
        have FB15_12 := Lib.hid (FB15_11.out.below B (Nat.le_refl _))
        have FS15_12 := Lib.hid (FS15_11.out.below B (Nat.le_refl _))
        have FS17_12 := Lib.hid (FS17_11.out.below B (Nat.le_refl _))
        have FS18_12 := Lib.hid (FS18_11.out.below B (Nat.le_refl _))
        have FS16_12 := Lib.hid (FS16_11.out.below B (Nat.le_refl _))
        have FB16_12 := Lib.hid (FB16_11.out.below B (Nat.le_refl _))
        clear B  HB11 FP_11 FQ_11 FR_11 FB7_11 FS7_11 FT7_11 FB8_11 FS8_11 FT8_11 FS110_11 FS111_11 FS112_11 FS113_11 FS13_11 FS14_11 FB15_11 FS15_11 FS17_11 FS18_11 FS16_11 FB16_11
        have vB150 := FB15_12.out.cell 0 (v := .int .i64 (sg (((a1 - a0) * (b2 - b0) - (b1 - b0) * (a2 - a0)) * ((a1 - a0) * (b2 - b0) - (b1 - b0) * (a2 - a0)) + ((a1 - a0) * (a2 - a0) + (b1 - b0) * (b2 - b0)) * ((a1 - a0) * (a2 - a0) + (b1 - b0) * (b2 - b0))))) rfl
        have vB151 := FB15_12.out.cell 1 (v := .slice A15 n15 c15) rfl
        have vB160 := FB16_12.out.cell 0 (v := .int .i64 (sg (((a1 - a0) * (a1 - a0) + (b1 - b0) * (b1 - b0)) * ((a2 - a0) * (a2 - a0) + (b2 - b0) * (b2 - b0))))) rfl
        have vB161 := FB16_12.out.cell 1 (v := .slice A16 n16 c16) rfl
        go_wp2_with fail
        refine (ref3_Sub _ _ _ _ _ _ _ _ _ FS15_12.out FS16_12.out (by omega) (by omega)).mono ?_
        rintro e w13 ⟨⟨A19, n19, c19, rfl, b19, N19⟩, B⟩
        clear vB150 vB151 vB160 vB161
        have HB13 := Lib.hid (HB12.out.trans (B.mono HB12.out.size))
        have FP_13 := Lib.hid (FP_12.out.below B (Nat.le_refl _))
        have FQ_13 := Lib.hid (FQ_12.out.below B (Nat.le_refl _))
        have FR_13 := Lib.hid (FR_12.out.below B (Nat.le_refl _))
        have FB7_13 := Lib.hid (FB7_12.out.below B (Nat.le_refl _))
        have FS7_13 := Lib.hid (FS7_12.out.below B (Nat.le_refl _))
        have FT7_13 := Lib.hid (FT7_12.out.below B (Nat.le_refl _))
        have FB8_13 := Lib.hid (FB8_12.out.below B (Nat.le_refl _))
        have FS8_13 := Lib.hid (FS8_12.out.below B (Nat.le_refl _))
        have FT8_13 := Lib.hid (FT8_12.out.below B (Nat.le_refl _))
        have FS110_13 := Lib.hid (FS110_12.out.below B (Nat.le_refl _))
        have FS111_13 := Lib.hid (FS111_12.out.below B (Nat.le_refl _))
        have FS112_13 := Lib.hid (FS112_12.out.below B (Nat.le_refl _))
        have FS113_13 := Lib.hid (FS113_12.out.below B (Nat.le_refl _))
        have FS13_13 := Lib.hid (FS13_12.out.below B (Nat.le_refl _))
        have FS14_13 := Lib.hid (FS14_12.out.below B (Nat.le_refl _))
        have FB15_13 := Lib.hid (FB15_12.out.below B (Nat.le_refl _))
        have FS15_13 := Lib.hid (FS15_12.out.below B (Nat.le_refl _))
        have FS17_13 := Lib.hid (FS17_12.out.below B (Nat.le_refl _))
        have FS18_13 := Lib.hid (FS18_12.out.below B (Nat.le_refl _))
        have FS16_13 := Lib.hid (FS16_12.out.below B (Nat.le_refl _))
        have FB16_13 := Lib.hid (FB16_12.out.below B (Nat.le_refl _))
        have FS19_13 := Lib.hid N19
        clear B N19 HB12 FP_12 FQ_12 FR_12 FB7_12 FS7_12 FT7_12 FB8_12 FS8_12 FT8_12 FS110_12 FS111_12 FS112_12 FS113_12 FS13_12 FS14_12 FB15_12 FS15_12 FS17_12 FS18_12 FS16_12 FB16_12
        rw [HZ.out]
        go_wp2_with fail
        go_ret
        exact ⟨rfl, HB13.out⟩

set_option maxRecDepth 100000 in
theorem lifted (os : Os) (started : os.Started) (H : Type) (enc : TypeId × Value → H) :
    ReturnsInHanded {} Try.checked os 7 .any (Rows.diffLagrangeSpec.pre6 enc Try.prog Try.f7 Rows.diffLagrangeRow.domain false) (Rows.diffLagrangeSpec.post enc Try.prog Try.f7 false true false false) := by
  refine returnsInHanded_of_change (C := Try.checked) own started (by kernel_rfl) Try.func7
    (ChangeSpec.witness6 (enc := enc) (C := Try.checked) false ⟨#[], #[.agg #[.int .i64 0, .int .i64 0], .agg #[.int .i64 0, .int .i64 0], .agg #[.int .i64 0, .int .i64 0]], []⟩ 8 (by kernel_rfl) (by kernel_rfl) (by kernel_rfl) (by kernel_rfl)) ?_
  intro W base args ds gs before hval0 hW hcnd _
  have hval : ∀ (j : Nat) t v, Try.f7.params[j]? = some t → args[j]? = some v → Value.okWide Try.prog W .any base t v := hval0
  have hW' := hW
  obtain ⟨p, q, hA0, hV, rfl, hfz, hnd⟩ := hW
  have hA : DataW.TrodAll enc Try.prog W 0 (fun _ => true) true Try.f7.params.toList args.toList ds p := hA0
  rw [Try.params7] at hA hval
  obtain ⟨v0, vs0, d0, ds0, p0, q0, hargs, rfl, rfl, h0, r0⟩ := trodAll_cons hA
  obtain ⟨v1, vs1, d1, ds1, p1, q1, rfl, rfl, rfl, h1, r1⟩ := trodAll_cons r0
  obtain ⟨v2, vs2, d2, ds2, p2, q2, rfl, rfl, rfl, h2, r2⟩ := trodAll_cons r1
  obtain ⟨rfl, rfl, rfl⟩ := trodAll_nil r2
  obtain rfl : args = #[v0, v1, v2] := by cases args; simp_all
  obtain ⟨rfl, rfl⟩ := trodVars_none hV
  have k0 := h0
  have lt0 : ∀ x ∈ p0, x.block < W.heap.size := by obtain ⟨m, hm⟩ := k0; exact DataW.trod_lt m _ _ _ hm
  have k1 := h1
  have lt1 : ∀ x ∈ p1, x.block < W.heap.size := by obtain ⟨m, hm⟩ := k1; exact DataW.trod_lt m _ _ _ hm
  have k2 := h2
  have lt2 : ∀ x ∈ p2, x.block < W.heap.size := by obtain ⟨m, hm⟩ := k2; exact DataW.trod_lt m _ _ _ hm
  obtain ⟨a0, b0, rfl, w0, x0⟩ := Op.open_pt Try.underlying23 rfl rfl rfl rfl Try.underlying2 (by kernel_rfl) (by kernel_rfl) h0
  obtain ⟨a1, b1, rfl, w1, x1⟩ := Op.open_pt Try.underlying23 rfl rfl rfl rfl Try.underlying2 (by kernel_rfl) (by kernel_rfl) h1
  obtain ⟨a2, b2, rfl, w2, x2⟩ := Op.open_pt Try.underlying23 rfl rfl rfl rfl Try.underlying2 (by kernel_rfl) (by kernel_rfl) h2
  clear hA0 hval0
  refine (walk a0 b0 w0 x0 a1 b1 w1 x1 a2 b2 w2 x2).mono fun e W' ⟨he, bel⟩ => ?_
  subst he
  exact ⟨_, rfl, _, _, _, [], _, [], hW', trodAll_mk1 (shut_bool Try.underlying4 _), (trodAll_cons_mk (Below.trod laidOut (by kernel_rfl) (of_decide_eq_true (by kernel_rfl)) k0 bel lt0) (trodAll_cons_mk (Below.trod laidOut (by kernel_rfl) (of_decide_eq_true (by kernel_rfl)) k1 bel lt1) (trodAll_cons_mk (Below.trod laidOut (by kernel_rfl) (of_decide_eq_true (by kernel_rfl)) k2 bel lt2) trodAll_mk0))), rfl, bel.frame _, fun h => by cases h⟩

theorem over : Rows.diffLagrangeRow.holds Try.pinned (OpenSpec.ofChange Rows.diffLagrangeSpec) :=
  OpenClaim.holds_of_wide 7 Try.f7 rfl rfl rfl rfl rfl rfl rfl ⟨rfl, rfl, rfl, rfl, rfl⟩ rfl rfl rfl rfl rfl (by kernel_rfl) Try.func7 (by kernel_rfl)
    (of_decide_eq_true (by kernel_rfl)) (by unfold Func.isWrapper; first | (rw [if_pos (by decide +kernel)]; kernel_rfl) | (rw [if_neg (by decide +kernel)]; exact ⟨rfl, rfl⟩))
    (fun os started H enc _ => lifted os started H enc)

/-- THE STATEMENT -/
theorem proved : Rows.DiffLagrangeSaid := over
#print axioms proved
end Go.Proofs.Ytfjanlfbnliokaa.diffLagrange
