/- DiffProducts: for every input the law returns true, and each argument reads afterwards as it read before. -/
import Derived.Test.YtfjanlfbnliokaaRows
import Derived.Test.YtfjanlfbnliokaaLaw5
import Derived.Test.YtfjanlfbnliokaaOpenPt
import Derived.WalkKit
import Derived.ProofKit
import Derived.OpenShut
import Derived.Below
namespace Go.Proofs.Ytfjanlfbnliokaa.diffProducts
open Go.ChangeShapes Go.WideShapes Go.ChangeAt Go.RowKit Wd
set_option linter.unusedVariables false
set_option linter.unusedSimpArgs false

theorem own : ownKnob Try.prog.godebug = none := by kernel_rfl
theorem laidOut : laidOutB Try.prog = true := by kernel_rfl

set_option maxHeartbeats 4000000 in
theorem walk {w : World} (a0 b0 : Int) (w0 : (Lit.int .i64 a0).wf = true) (x0 : (Lit.int .i64 b0).wf = true) (a1 b1 : Int) (w1 : (Lit.int .i64 a1).wf = true) (x1 : (Lit.int .i64 b1).wf = true) (a2 b2 : Int) (w2 : (Lit.int .i64 a2).wf = true) (x2 : (Lit.int .i64 b2).wf = true)  :
    Calls Try.prog 4 #[.agg #[.int .i64 a0, .int .i64 b0], .agg #[.int .i64 a1, .int .i64 b1], .agg #[.int .i64 a2, .int .i64 b2]] w fun e w' => e = .returned (.bool true) ∧ Below w.heap.size w w' := by
  have HB0 := Lib.hid (Below.refl w.heap.size w)
  have ia0 := isI_of_wf w0
  have ib0 := isI_of_wf x0
  have ia1 := isI_of_wf w1
  have ib1 := isI_of_wf x1
  have ia2 := isI_of_wf w2
  have ib2 := isI_of_wf x2
  go_enter Try.func4, Try.ntmps4
  go_wp2_with fail
  have B : Below w.heap.size w (((w.alloc (.cells #[.int .i64 a0, .int .i64 b0] 23)).alloc (.cells #[.int .i64 a1, .int .i64 b1] 23)).alloc (.cells #[.int .i64 a2, .int .i64 b2] 23)) := (((HB0.out.alloc HB0.out.size _).alloc (HB0.out.alloc HB0.out.size _).size _).alloc ((HB0.out.alloc HB0.out.size _).alloc (HB0.out.alloc HB0.out.size _).size _).size _)
  have C : Below w.heap.size w (((w.alloc (.cells #[.int .i64 a0, .int .i64 b0] 23)).alloc (.cells #[.int .i64 a1, .int .i64 b1] 23)).alloc (.cells #[.int .i64 a2, .int .i64 b2] 23)) := ((((Below.refl w.heap.size w).alloc (Nat.le_refl _) _).alloc (by simp; try omega) _).alloc (by simp; try omega) _)
  have X0 : Bx (((w.alloc (.cells #[.int .i64 a0, .int .i64 b0] 23)).alloc (.cells #[.int .i64 a1, .int .i64 b1] 23)).alloc (.cells #[.int .i64 a2, .int .i64 b2] 23)) (w.heap.size) #[.int .i64 a0, .int .i64 b0] 23 := by simpa using (((Bx.new w #[.int .i64 a0, .int .i64 b0] 23).alloc _).alloc _)
  have X1 : Bx (((w.alloc (.cells #[.int .i64 a0, .int .i64 b0] 23)).alloc (.cells #[.int .i64 a1, .int .i64 b1] 23)).alloc (.cells #[.int .i64 a2, .int .i64 b2] 23)) (w.heap.size + 1) #[.int .i64 a1, .int .i64 b1] 23 := by simpa using ((Bx.new (w.alloc (.cells #[.int .i64 a0, .int .i64 b0] 23)) #[.int .i64 a1, .int .i64 b1] 23).alloc _)
  have X2 : Bx (((w.alloc (.cells #[.int .i64 a0, .int .i64 b0] 23)).alloc (.cells #[.int .i64 a1, .int .i64 b1] 23)).alloc (.cells #[.int .i64 a2, .int .i64 b2] 23)) (w.heap.size + 1 + 1) #[.int .i64 a2, .int .i64 b2] 23 := by simpa using (Bx.new ((w.alloc (.cells #[.int .i64 a0, .int .i64 b0] 23)).alloc (.cells #[.int .i64 a1, .int .i64 b1] 23)) #[.int .i64 a2, .int .i64 b2] 23)
  have HB1 := Lib.hid B
  have FP_1 := Lib.hid X0
  have FQ_1 := Lib.hid X1
  have FR_1 := Lib.hid X2
  clear B C X0 X1 X2 HB0 
  generalize (((w.alloc (.cells #[.int .i64 a0, .int .i64 b0] 23)).alloc (.cells #[.int .i64 a1, .int .i64 b1] 23)).alloc (.cells #[.int .i64 a2, .int .i64 b2] 23)) = w1 at *
  have RB1 := Lib.hid (below_drew0 w1)
  refine wp_region_held_drew (S := fun _ => True) (by kernel_rfl) trivial (fun _ => ?_)
  refine wpAnyH_gen [(⟨6, 8, 7, 26, #[.slice none 0 0, .slice none 0 0], []⟩, fun cs w => ∃ (U : Option Addr) (u : Nat) (V : Option Addr) (v : Nat), cs = #[.slice U 2 u, .slice V 2 v] ∧ Sl w .u64 U 2 u (lmb (a1 - a0)) ∧ Sl w .u64 V 2 v (lmb (b1 - b0))), (⟨7, 9, 8, 26, #[.slice none 0 0, .slice none 0 0], []⟩, fun cs w => ∃ (U : Option Addr) (u : Nat) (V : Option Addr) (v : Nat), cs = #[.slice U 2 u, .slice V 2 v] ∧ Sl w .u64 U 2 u (lmb (a2 - a0)) ∧ Sl w .u64 V 2 v (lmb (b2 - b0)))] [⟨0, 11, fun x _ => x = .agg #[.int .i64 a0, .int .i64 b0]⟩, ⟨1, 12, fun x _ => x = .agg #[.int .i64 a1, .int .i64 b1]⟩, ⟨2, 13, fun x w => ∃ (U : Option Addr) (u : Nat) (V : Option Addr) (v : Nat), x = .agg #[.slice U 2 u, .slice V 2 v] ∧ Sl w .u64 U 2 u (lmb (a1 - a0)) ∧ Sl w .u64 V 2 v (lmb (b1 - b0))⟩, ⟨3, 14, fun x _ => x = .agg #[.int .i64 a0, .int .i64 b0]⟩, ⟨4, 15, fun x _ => x = .agg #[.int .i64 a2, .int .i64 b2]⟩, ⟨5, 16, fun x w => ∃ (U : Option Addr) (u : Nat) (V : Option Addr) (v : Nat), x = .agg #[.slice U 2 u, .slice V 2 v] ∧ Sl w .u64 U 2 u (lmb (a2 - a0)) ∧ Sl w .u64 V 2 v (lmb (b2 - b0))⟩] (by kernel_rfl) (by kernel_rfl) (fun _ => trivial) ?_ ?_ ?_ ?_ ?_ ?_
  · refine ⟨?_, ?_, trivial⟩
    all_goals exact ⟨fun cs => by (dsimp only; repeat (first | exact Stay.const _ | exact Stay.sl _ _ _ _ | exact Stay.nm _ _ _ _ | exact Stay.bx _ _ _ _ | refine Stay.ex fun _ => ?_ | refine Stay.and ?_ ?_)), by dsimp only; decide, by simp [NoU]⟩
  · refine ⟨?_, ?_, ?_, ?_, ?_, ?_, trivial⟩
    all_goals (intro x; (dsimp only; repeat (first | exact Stay.const _ | exact Stay.sl _ _ _ _ | exact Stay.nm _ _ _ _ | exact Stay.bx _ _ _ _ | refine Stay.ex fun _ => ?_ | refine Stay.and ?_ ?_)))
  · refine ⟨?_, ?_, trivial⟩
    all_goals (intro a w K h; refine wpOp_step (by simp only [List.getElem?_toArray, List.getElem?_cons_succ, List.getElem?_cons_zero]; rfl) (fun K' hK => ?_); go_simp; exact hK _ _ h)
  · refine ⟨?_, ?_, trivial⟩
    · intro a w B K ht hd hs hb hK
      obtain ⟨x13, hx13, hp13⟩ := hd 2 _ rfl (by kernel_rfl)
      obtain ⟨U2, u2, V2, v2, rfl, S2, T2⟩ := hp13
      have es13 : a.tmps.getD 13 undef = _ := getD_of hx13; clear hx13
      clear ht hd
      have c0 := hb.cell 0 (v := .slice none 0 0) rfl; have z0 := hb.free 0
      have c1 := hb.cell 1 (v := .slice none 0 0) rfl; have z1 := hb.free 1
      have HK := Lib.hid (hK [.slice U2 2 u2, .slice V2 2 v2] rfl (by simp [NoU]) ⟨U2, u2, V2, v2, rfl, S2, T2⟩); clear hK hb
      simp only [ptrTo] at hs
      have esB : a.tmps.getD 7 undef = _ := getD_of hs; clear hs
      refine wpOp_step (by simp only [List.getElem?_toArray, List.getElem?_cons_succ, List.getElem?_cons_zero]; rfl) (fun K' hK' => ?_)
      go_simp
      exact hK' _ _ HK.out
    · intro a w B K ht hd hs hb hK
      obtain ⟨x16, hx16, hp16⟩ := hd 5 _ rfl (by kernel_rfl)
      obtain ⟨U5, u5, V5, v5, rfl, S5, T5⟩ := hp16
      have es16 : a.tmps.getD 16 undef = _ := getD_of hx16; clear hx16
      clear ht hd
      have c0 := hb.cell 0 (v := .slice none 0 0) rfl; have z0 := hb.free 0
      have c1 := hb.cell 1 (v := .slice none 0 0) rfl; have z1 := hb.free 1
      have HK := Lib.hid (hK [.slice U5 2 u5, .slice V5 2 v5] rfl (by simp [NoU]) ⟨U5, u5, V5, v5, rfl, S5, T5⟩); clear hK hb
      simp only [ptrTo] at hs
      have esB : a.tmps.getD 8 undef = _ := getD_of hs; clear hs
      refine wpOp_step (by simp only [List.getElem?_toArray, List.getElem?_cons_succ, List.getElem?_cons_zero]; rfl) (fun K' hK' => ?_)
      go_simp
      exact hK' _ _ HK.out
  · refine ⟨?_, ?_, ?_, ?_, ?_, ?_, trivial⟩
    · intro a w K hb ht hd hK
      have hbw := Lib.hid (below_tr RB1.out hb); clear hb
      have hx3 := (ht 3 rfl).trans rfl
      have es3 : a.tmps.getD 3 undef = _ := getD_of hx3; clear hx3
      clear ht hd
      have c0 := (FP_1.out.below hbw.out (Nat.le_refl _)).cell 0 (v := .int .i64 a0) rfl
      have c1 := (FP_1.out.below hbw.out (Nat.le_refl _)).cell 1 (v := .int .i64 b0) rfl
      have HK := Lib.hid hK; clear hK
      refine wpOp_step (by simp only [List.getElem?_toArray, List.getElem?_cons_succ, List.getElem?_cons_zero]; rfl) (fun K' hK' => ?_)
      have HK' := Lib.hid hK'; clear hK'
      go_simp
      exact HK'.out _ _ (HK.out _ _ below_rf rfl)
    · intro a w K hb ht hd hK
      have hbw := Lib.hid (below_tr RB1.out hb); clear hb
      have hx4 := (ht 4 rfl).trans rfl
      have es4 : a.tmps.getD 4 undef = _ := getD_of hx4; clear hx4
      clear ht hd
      have c0 := (FQ_1.out.below hbw.out (Nat.le_refl _)).cell 0 (v := .int .i64 a1) rfl
      have c1 := (FQ_1.out.below hbw.out (Nat.le_refl _)).cell 1 (v := .int .i64 b1) rfl
      have HK := Lib.hid hK; clear hK
      refine wpOp_step (by simp only [List.getElem?_toArray, List.getElem?_cons_succ, List.getElem?_cons_zero]; rfl) (fun K' hK' => ?_)
      have HK' := Lib.hid hK'; clear hK'
      go_simp
      exact HK'.out _ _ (HK.out _ _ below_rf rfl)
    · intro a w K hb ht hd hK
      have hbw := Lib.hid (below_tr RB1.out hb); clear hb
      obtain ⟨x11, hx11, hp11⟩ := hd 0 _ rfl (by kernel_rfl)
      obtain rfl := hp11
      have es11 : a.tmps.getD 11 undef = _ := getD_of hx11; clear hx11
      obtain ⟨x12, hx12, hp12⟩ := hd 1 _ rfl (by kernel_rfl)
      obtain rfl := hp12
      have es12 : a.tmps.getD 12 undef = _ := getD_of hx12; clear hx12
      clear ht hd
      have HK := Lib.hid hK; clear hK
      refine wpOp_step (by simp only [List.getElem?_toArray, List.getElem?_cons_succ, List.getElem?_cons_zero]; rfl) (fun K' hK' => ?_)
      have HK' := Lib.hid hK'; clear hK'
      go_simp
      refine (diff_Between a0 b0 a1 b1 ia0 ib0 ia1 ib1 _).mono ?_
      rintro e w1 ⟨⟨U, u, V, v, rfl, S, T⟩, B⟩
      go_wp2_with fail
      exact HK'.out _ _ (HK.out _ _ B ⟨U, u, V, v, rfl, S, T⟩)
    · intro a w K hb ht hd hK
      have hbw := Lib.hid (below_tr RB1.out hb); clear hb
      have hx3 := (ht 3 rfl).trans rfl
      have es3 : a.tmps.getD 3 undef = _ := getD_of hx3; clear hx3
      clear ht hd
      have c0 := (FP_1.out.below hbw.out (Nat.le_refl _)).cell 0 (v := .int .i64 a0) rfl
      have c1 := (FP_1.out.below hbw.out (Nat.le_refl _)).cell 1 (v := .int .i64 b0) rfl
      have HK := Lib.hid hK; clear hK
      refine wpOp_step (by simp only [List.getElem?_toArray, List.getElem?_cons_succ, List.getElem?_cons_zero]; rfl) (fun K' hK' => ?_)
      have HK' := Lib.hid hK'; clear hK'
      go_simp
      exact HK'.out _ _ (HK.out _ _ below_rf rfl)
    · intro a w K hb ht hd hK
      have hbw := Lib.hid (below_tr RB1.out hb); clear hb
      have hx5 := (ht 5 rfl).trans rfl
      have es5 : a.tmps.getD 5 undef = _ := getD_of hx5; clear hx5
      clear ht hd
      have c0 := (FR_1.out.below hbw.out (Nat.le_refl _)).cell 0 (v := .int .i64 a2) rfl
      have c1 := (FR_1.out.below hbw.out (Nat.le_refl _)).cell 1 (v := .int .i64 b2) rfl
      have HK := Lib.hid hK; clear hK
      refine wpOp_step (by simp only [List.getElem?_toArray, List.getElem?_cons_succ, List.getElem?_cons_zero]; rfl) (fun K' hK' => ?_)
      have HK' := Lib.hid hK'; clear hK'
      go_simp
      exact HK'.out _ _ (HK.out _ _ below_rf rfl)
    · intro a w K hb ht hd hK
      have hbw := Lib.hid (below_tr RB1.out hb); clear hb
      obtain ⟨x14, hx14, hp14⟩ := hd 3 _ rfl (by kernel_rfl)
      obtain rfl := hp14
      have es14 : a.tmps.getD 14 undef = _ := getD_of hx14; clear hx14
      obtain ⟨x15, hx15, hp15⟩ := hd 4 _ rfl (by kernel_rfl)
      obtain rfl := hp15
      have es15 : a.tmps.getD 15 undef = _ := getD_of hx15; clear hx15
      clear ht hd
      have HK := Lib.hid hK; clear hK
      refine wpOp_step (by simp only [List.getElem?_toArray, List.getElem?_cons_succ, List.getElem?_cons_zero]; rfl) (fun K' hK' => ?_)
      have HK' := Lib.hid hK'; clear hK'
      go_simp
      refine (diff_Between a0 b0 a2 b2 ia0 ib0 ia2 ib2 _).mono ?_
      rintro e w1 ⟨⟨U, u, V, v, rfl, S, T⟩, B⟩
      go_wp2_with fail
      exact HK'.out _ _ (HK.out _ _ B ⟨U, u, V, v, rfl, S, T⟩)
  · intro w2 X B hb hv hx hd
    simp only [List.foldl_cons, List.foldl_nil, Act.put, List.setIfInBounds_toArray, List.set_cons_zero, List.set_cons_succ, ptrTo]
    obtain ⟨hv0, hv1, hv2, hv3, hv4, hv5, -⟩ := hv
    obtain ⟨⟨hn7, cs7, hx7, hg7⟩, ⟨hn8, cs8, hx8, hg8⟩, -⟩ := hx
    clear hd
    have hV0 : (fun x _ => x = .agg #[.int .i64 a0, .int .i64 b0]) (X 11) w2 := hv0; clear hv0; have hv0 := hV0; clear hV0; generalize X 11 = X11 at *
    have hV1 : (fun x _ => x = .agg #[.int .i64 a1, .int .i64 b1]) (X 12) w2 := hv1; clear hv1; have hv1 := hV1; clear hV1; generalize X 12 = X12 at *
    have hV2 : (fun x w => ∃ (U : Option Addr) (u : Nat) (V : Option Addr) (v : Nat), x = .agg #[.slice U 2 u, .slice V 2 v] ∧ Sl w .u64 U 2 u (lmb (a1 - a0)) ∧ Sl w .u64 V 2 v (lmb (b1 - b0))) (X 13) w2 := hv2; clear hv2; have hv2 := hV2; clear hV2; generalize X 13 = X13 at *
    have hV3 : (fun x _ => x = .agg #[.int .i64 a0, .int .i64 b0]) (X 14) w2 := hv3; clear hv3; have hv3 := hV3; clear hV3; generalize X 14 = X14 at *
    have hV4 : (fun x _ => x = .agg #[.int .i64 a2, .int .i64 b2]) (X 15) w2 := hv4; clear hv4; have hv4 := hV4; clear hV4; generalize X 15 = X15 at *
    have hV5 : (fun x w => ∃ (U : Option Addr) (u : Nat) (V : Option Addr) (v : Nat), x = .agg #[.slice U 2 u, .slice V 2 v] ∧ Sl w .u64 U 2 u (lmb (a2 - a0)) ∧ Sl w .u64 V 2 v (lmb (b2 - b0))) (X 16) w2 := hv5; clear hv5; have hv5 := hV5; clear hV5; generalize X 16 = X16 at *
    have hx7' : Bx w2 (B 7) cs7 26 := hx7; clear hx7; generalize B 7 = b7 at *
    have hx8' : Bx w2 (B 8) cs8 26 := hx8; clear hx8; generalize B 8 = b8 at *
    have hn7' : w1.heap.size ≤ b7 := hn7; clear hn7
    have hn8' : w1.heap.size ≤ b8 := hn8; clear hn8
    obtain rfl := hv0
    obtain rfl := hv1
    clear hv2
    obtain rfl := hv3
    obtain rfl := hv4
    clear hv5
    obtain ⟨U7, u7, V7, v7, rfl, S7, T7⟩ := hg7
    obtain ⟨U8, u8, V8, v8, rfl, S8, T8⟩ := hg8
    have RC := Lib.hid (below_tr RB1.out hb); clear hb
    have FP_2 := Lib.hid (FP_1.out.below RC.out (Nat.le_refl _))
    have FQ_2 := Lib.hid (FQ_1.out.below RC.out (Nat.le_refl _))
    have FR_2 := Lib.hid (FR_1.out.below RC.out (Nat.le_refl _))
    have HB2 := Lib.hid (HB1.out.trans (RC.out.mono HB1.out.size))
    clear HB1 FP_1 FQ_1 FR_1 RC RB1
    have FB7 := Lib.hid hx7'; clear hx7'
    have FS7 := Lib.hid S7; clear S7
    have FT7 := Lib.hid T7; clear T7
    have FB8 := Lib.hid hx8'; clear hx8'
    have FS8 := Lib.hid S8; clear S8
    have FT8 := Lib.hid T8; clear T8
    go_wp2_with fail
    have RB2 := Lib.hid (below_drew0 w2)
    refine wp_region_held_drew (S := fun _ => True) (by kernel_rfl) trivial (fun _ => ?_)
    refine wpAnyH_gen [(⟨6, 8, 9, 32, #[.int .i64 0, .slice none 0 0, .int .i64 0, .slice none 0 0], []⟩, fun cs w => ∃ (A : Option Addr) (n c : Nat) (A' : Option Addr) (n' c' : Nat), cs = #[.int .i64 (sg (a1 - a0)), .slice A n c, .int .i64 (sg (b1 - b0)), .slice A' n' c'] ∧ (n ≤ 5 ∧ n' ≤ 5) ∧ Nm w A n c (a1 - a0) ∧ Nm w A' n' c' (b1 - b0)), (⟨7, 9, 10, 32, #[.int .i64 0, .slice none 0 0, .int .i64 0, .slice none 0 0], []⟩, fun cs w => ∃ (A : Option Addr) (n c : Nat) (A' : Option Addr) (n' c' : Nat), cs = #[.int .i64 (sg (a2 - a0)), .slice A n c, .int .i64 (sg (b2 - b0)), .slice A' n' c'] ∧ (n ≤ 5 ∧ n' ≤ 5) ∧ Nm w A n c (a2 - a0) ∧ Nm w A' n' c' (b2 - b0))] [⟨0, 17, fun x _ => x = .agg #[.int .i64 a0, .int .i64 b0]⟩, ⟨1, 18, fun x _ => x = .agg #[.int .i64 a1, .int .i64 b1]⟩, ⟨2, 19, fun x w => ∃ (A : Option Addr) (n c : Nat) (A' : Option Addr) (n' c' : Nat), x = .agg #[.int .i64 (sg (a1 - a0)), .slice A n c, .int .i64 (sg (b1 - b0)), .slice A' n' c'] ∧ (n ≤ 5 ∧ n' ≤ 5) ∧ Nm w A n c (a1 - a0) ∧ Nm w A' n' c' (b1 - b0)⟩, ⟨3, 20, fun x _ => x = .agg #[.int .i64 a0, .int .i64 b0]⟩, ⟨4, 21, fun x _ => x = .agg #[.int .i64 a2, .int .i64 b2]⟩, ⟨5, 22, fun x w => ∃ (A : Option Addr) (n c : Nat) (A' : Option Addr) (n' c' : Nat), x = .agg #[.int .i64 (sg (a2 - a0)), .slice A n c, .int .i64 (sg (b2 - b0)), .slice A' n' c'] ∧ (n ≤ 5 ∧ n' ≤ 5) ∧ Nm w A n c (a2 - a0) ∧ Nm w A' n' c' (b2 - b0)⟩] (by kernel_rfl) (by kernel_rfl) (fun _ => trivial) ?_ ?_ ?_ ?_ ?_ ?_
    · refine ⟨?_, ?_, trivial⟩
      all_goals exact ⟨fun cs => by (dsimp only; repeat (first | exact Stay.const _ | exact Stay.sl _ _ _ _ | exact Stay.nm _ _ _ _ | exact Stay.bx _ _ _ _ | refine Stay.ex fun _ => ?_ | refine Stay.and ?_ ?_)), by dsimp only; decide, by simp [NoU]⟩
    · refine ⟨?_, ?_, ?_, ?_, ?_, ?_, trivial⟩
      all_goals (intro x; (dsimp only; repeat (first | exact Stay.const _ | exact Stay.sl _ _ _ _ | exact Stay.nm _ _ _ _ | exact Stay.bx _ _ _ _ | refine Stay.ex fun _ => ?_ | refine Stay.and ?_ ?_)))
    · refine ⟨?_, ?_, trivial⟩
      all_goals (intro a w K h; refine wpOp_step (by simp only [List.getElem?_toArray, List.getElem?_cons_succ, List.getElem?_cons_zero]; rfl) (fun K' hK => ?_); go_simp; exact hK _ _ h)
    · refine ⟨?_, ?_, trivial⟩
      · intro a w B K ht hd hs hb hK
        obtain ⟨x19, hx19, hp19⟩ := hd 2 _ rfl (by kernel_rfl)
        obtain ⟨P2, p2, g2, Q2, q2, h2, rfl, ⟨e2, f2⟩, M2, N2⟩ := hp19
        have es19 : a.tmps.getD 19 undef = _ := getD_of hx19; clear hx19
        clear ht hd
        have c0 := hb.cell 0 (v := .int .i64 0) rfl; have z0 := hb.free 0
        have c1 := hb.cell 1 (v := .slice none 0 0) rfl; have z1 := hb.free 1
        have c2 := hb.cell 2 (v := .int .i64 0) rfl; have z2 := hb.free 2
        have c3 := hb.cell 3 (v := .slice none 0 0) rfl; have z3 := hb.free 3
        have HK := Lib.hid (hK [.int .i64 (sg (a1 - a0)), .slice P2 p2 g2, .int .i64 (sg (b1 - b0)), .slice Q2 q2 h2] rfl (by simp [NoU]) ⟨P2, p2, g2, Q2, q2, h2, rfl, ⟨e2, f2⟩, M2, N2⟩); clear hK hb
        simp only [ptrTo] at hs
        have esB : a.tmps.getD 9 undef = _ := getD_of hs; clear hs
        refine wpOp_step (by simp only [List.getElem?_toArray, List.getElem?_cons_succ, List.getElem?_cons_zero]; rfl) (fun K' hK' => ?_)
        go_simp
        exact hK' _ _ HK.out
      · intro a w B K ht hd hs hb hK
        obtain ⟨x22, hx22, hp22⟩ := hd 5 _ rfl (by kernel_rfl)
        obtain ⟨P5, p5, g5, Q5, q5, h5, rfl, ⟨e5, f5⟩, M5, N5⟩ := hp22
        have es22 : a.tmps.getD 22 undef = _ := getD_of hx22; clear hx22
        clear ht hd
        have c0 := hb.cell 0 (v := .int .i64 0) rfl; have z0 := hb.free 0
        have c1 := hb.cell 1 (v := .slice none 0 0) rfl; have z1 := hb.free 1
        have c2 := hb.cell 2 (v := .int .i64 0) rfl; have z2 := hb.free 2
        have c3 := hb.cell 3 (v := .slice none 0 0) rfl; have z3 := hb.free 3
        have HK := Lib.hid (hK [.int .i64 (sg (a2 - a0)), .slice P5 p5 g5, .int .i64 (sg (b2 - b0)), .slice Q5 q5 h5] rfl (by simp [NoU]) ⟨P5, p5, g5, Q5, q5, h5, rfl, ⟨e5, f5⟩, M5, N5⟩); clear hK hb
        simp only [ptrTo] at hs
        have esB : a.tmps.getD 10 undef = _ := getD_of hs; clear hs
        refine wpOp_step (by simp only [List.getElem?_toArray, List.getElem?_cons_succ, List.getElem?_cons_zero]; rfl) (fun K' hK' => ?_)
        go_simp
        exact hK' _ _ HK.out
    · refine ⟨?_, ?_, ?_, ?_, ?_, ?_, trivial⟩
      · intro a w K hb ht hd hK
        have hbw := Lib.hid (below_tr RB2.out hb); clear hb
        have hx3 := (ht 3 rfl).trans rfl
        have es3 : a.tmps.getD 3 undef = _ := getD_of hx3; clear hx3
        clear ht hd
        have c0 := (FP_2.out.below hbw.out (Nat.le_refl _)).cell 0 (v := .int .i64 a0) rfl
        have c1 := (FP_2.out.below hbw.out (Nat.le_refl _)).cell 1 (v := .int .i64 b0) rfl
        have HK := Lib.hid hK; clear hK
        refine wpOp_step (by simp only [List.getElem?_toArray, List.getElem?_cons_succ, List.getElem?_cons_zero]; rfl) (fun K' hK' => ?_)
        have HK' := Lib.hid hK'; clear hK'
        go_simp
        exact HK'.out _ _ (HK.out _ _ below_rf rfl)
      · intro a w K hb ht hd hK
        have hbw := Lib.hid (below_tr RB2.out hb); clear hb
        have hx4 := (ht 4 rfl).trans rfl
        have es4 : a.tmps.getD 4 undef = _ := getD_of hx4; clear hx4
        clear ht hd
        have c0 := (FQ_2.out.below hbw.out (Nat.le_refl _)).cell 0 (v := .int .i64 a1) rfl
        have c1 := (FQ_2.out.below hbw.out (Nat.le_refl _)).cell 1 (v := .int .i64 b1) rfl
        have HK := Lib.hid hK; clear hK
        refine wpOp_step (by simp only [List.getElem?_toArray, List.getElem?_cons_succ, List.getElem?_cons_zero]; rfl) (fun K' hK' => ?_)
        have HK' := Lib.hid hK'; clear hK'
        go_simp
        exact HK'.out _ _ (HK.out _ _ below_rf rfl)
      · intro a w K hb ht hd hK
        have hbw := Lib.hid (below_tr RB2.out hb); clear hb
        obtain ⟨x17, hx17, hp17⟩ := hd 0 _ rfl (by kernel_rfl)
        obtain rfl := hp17
        have es17 : a.tmps.getD 17 undef = _ := getD_of hx17; clear hx17
        obtain ⟨x18, hx18, hp18⟩ := hd 1 _ rfl (by kernel_rfl)
        obtain rfl := hp18
        have es18 : a.tmps.getD 18 undef = _ := getD_of hx18; clear hx18
        clear ht hd
        have HK := Lib.hid hK; clear hK
        refine wpOp_step (by simp only [List.getElem?_toArray, List.getElem?_cons_succ, List.getElem?_cons_zero]; rfl) (fun K' hK' => ?_)
        have HK' := Lib.hid hK'; clear hK'
        go_simp
        refine (ref5_Between a0 b0 a1 b1 ia0 ib0 ia1 ib1 _).mono ?_
        rintro e w1 ⟨⟨A, n, c, A', n', c', rfl, b, M, N⟩, B⟩
        go_wp2_with fail
        exact HK'.out _ _ (HK.out _ _ B ⟨A, n, c, A', n', c', rfl, b, M, N⟩)
      · intro a w K hb ht hd hK
        have hbw := Lib.hid (below_tr RB2.out hb); clear hb
        have hx3 := (ht 3 rfl).trans rfl
        have es3 : a.tmps.getD 3 undef = _ := getD_of hx3; clear hx3
        clear ht hd
        have c0 := (FP_2.out.below hbw.out (Nat.le_refl _)).cell 0 (v := .int .i64 a0) rfl
        have c1 := (FP_2.out.below hbw.out (Nat.le_refl _)).cell 1 (v := .int .i64 b0) rfl
        have HK := Lib.hid hK; clear hK
        refine wpOp_step (by simp only [List.getElem?_toArray, List.getElem?_cons_succ, List.getElem?_cons_zero]; rfl) (fun K' hK' => ?_)
        have HK' := Lib.hid hK'; clear hK'
        go_simp
        exact HK'.out _ _ (HK.out _ _ below_rf rfl)
      · intro a w K hb ht hd hK
        have hbw := Lib.hid (below_tr RB2.out hb); clear hb
        have hx5 := (ht 5 rfl).trans rfl
        have es5 : a.tmps.getD 5 undef = _ := getD_of hx5; clear hx5
        clear ht hd
        have c0 := (FR_2.out.below hbw.out (Nat.le_refl _)).cell 0 (v := .int .i64 a2) rfl
        have c1 := (FR_2.out.below hbw.out (Nat.le_refl _)).cell 1 (v := .int .i64 b2) rfl
        have HK := Lib.hid hK; clear hK
        refine wpOp_step (by simp only [List.getElem?_toArray, List.getElem?_cons_succ, List.getElem?_cons_zero]; rfl) (fun K' hK' => ?_)
        have HK' := Lib.hid hK'; clear hK'
        go_simp
        exact HK'.out _ _ (HK.out _ _ below_rf rfl)
      · intro a w K hb ht hd hK
        have hbw := Lib.hid (below_tr RB2.out hb); clear hb
        obtain ⟨x20, hx20, hp20⟩ := hd 3 _ rfl (by kernel_rfl)
        obtain rfl := hp20
        have es20 : a.tmps.getD 20 undef = _ := getD_of hx20; clear hx20
        obtain ⟨x21, hx21, hp21⟩ := hd 4 _ rfl (by kernel_rfl)
        obtain rfl := hp21
        have es21 : a.tmps.getD 21 undef = _ := getD_of hx21; clear hx21
        clear ht hd
        have HK := Lib.hid hK; clear hK
        refine wpOp_step (by simp only [List.getElem?_toArray, List.getElem?_cons_succ, List.getElem?_cons_zero]; rfl) (fun K' hK' => ?_)
        have HK' := Lib.hid hK'; clear hK'
        go_simp
        refine (ref5_Between a0 b0 a2 b2 ia0 ib0 ia2 ib2 _).mono ?_
        rintro e w1 ⟨⟨A, n, c, A', n', c', rfl, b, M, N⟩, B⟩
        go_wp2_with fail
        exact HK'.out _ _ (HK.out _ _ B ⟨A, n, c, A', n', c', rfl, b, M, N⟩)
    · intro w3 X B hb hv hx hd
      simp only [List.foldl_cons, List.foldl_nil, Act.put, List.setIfInBounds_toArray, List.set_cons_zero, List.set_cons_succ, ptrTo]
      obtain ⟨hv0, hv1, hv2, hv3, hv4, hv5, -⟩ := hv
      obtain ⟨⟨hn9, cs9, hx9, hg9⟩, ⟨hn10, cs10, hx10, hg10⟩, -⟩ := hx
      clear hd
      have hV0 : (fun x _ => x = .agg #[.int .i64 a0, .int .i64 b0]) (X 17) w3 := hv0; clear hv0; have hv0 := hV0; clear hV0; generalize X 17 = X17 at *
      have hV1 : (fun x _ => x = .agg #[.int .i64 a1, .int .i64 b1]) (X 18) w3 := hv1; clear hv1; have hv1 := hV1; clear hV1; generalize X 18 = X18 at *
      have hV2 : (fun x w => ∃ (A : Option Addr) (n c : Nat) (A' : Option Addr) (n' c' : Nat), x = .agg #[.int .i64 (sg (a1 - a0)), .slice A n c, .int .i64 (sg (b1 - b0)), .slice A' n' c'] ∧ (n ≤ 5 ∧ n' ≤ 5) ∧ Nm w A n c (a1 - a0) ∧ Nm w A' n' c' (b1 - b0)) (X 19) w3 := hv2; clear hv2; have hv2 := hV2; clear hV2; generalize X 19 = X19 at *
      have hV3 : (fun x _ => x = .agg #[.int .i64 a0, .int .i64 b0]) (X 20) w3 := hv3; clear hv3; have hv3 := hV3; clear hV3; generalize X 20 = X20 at *
      have hV4 : (fun x _ => x = .agg #[.int .i64 a2, .int .i64 b2]) (X 21) w3 := hv4; clear hv4; have hv4 := hV4; clear hV4; generalize X 21 = X21 at *
      have hV5 : (fun x w => ∃ (A : Option Addr) (n c : Nat) (A' : Option Addr) (n' c' : Nat), x = .agg #[.int .i64 (sg (a2 - a0)), .slice A n c, .int .i64 (sg (b2 - b0)), .slice A' n' c'] ∧ (n ≤ 5 ∧ n' ≤ 5) ∧ Nm w A n c (a2 - a0) ∧ Nm w A' n' c' (b2 - b0)) (X 22) w3 := hv5; clear hv5; have hv5 := hV5; clear hV5; generalize X 22 = X22 at *
      have hx9' : Bx w3 (B 9) cs9 32 := hx9; clear hx9; generalize B 9 = b9 at *
      have hx10' : Bx w3 (B 10) cs10 32 := hx10; clear hx10; generalize B 10 = b10 at *
      have hn9' : w2.heap.size ≤ b9 := hn9; clear hn9
      have hn10' : w2.heap.size ≤ b10 := hn10; clear hn10
      obtain rfl := hv0
      obtain rfl := hv1
      clear hv2
      obtain rfl := hv3
      obtain rfl := hv4
      clear hv5
      obtain ⟨P9, p9, g9, Q9, q9, h9, rfl, ⟨e9, f9⟩, M9, N9⟩ := hg9
      obtain ⟨P10, p10, g10, Q10, q10, h10, rfl, ⟨e10, f10⟩, M10, N10⟩ := hg10
      have RC := Lib.hid (below_tr RB2.out hb); clear hb
      have FP_3 := Lib.hid (FP_2.out.below RC.out (Nat.le_refl _))
      have FQ_3 := Lib.hid (FQ_2.out.below RC.out (Nat.le_refl _))
      have FR_3 := Lib.hid (FR_2.out.below RC.out (Nat.le_refl _))
      have FB7_3 := Lib.hid (FB7.out.below RC.out (Nat.le_refl _))
      have FS7_3 := Lib.hid (FS7.out.below RC.out (Nat.le_refl _))
      have FT7_3 := Lib.hid (FT7.out.below RC.out (Nat.le_refl _))
      have FB8_3 := Lib.hid (FB8.out.below RC.out (Nat.le_refl _))
      have FS8_3 := Lib.hid (FS8.out.below RC.out (Nat.le_refl _))
      have FT8_3 := Lib.hid (FT8.out.below RC.out (Nat.le_refl _))
      have HB3 := Lib.hid (HB2.out.trans (RC.out.mono HB2.out.size))
      clear HB2 FP_2 FQ_2 FR_2 FB7 FS7 FT7 FB8 FS8 FT8 RC RB2
      have FB9 := Lib.hid hx9'; clear hx9'
      have FM9 := Lib.hid M9; clear M9
      have FN9 := Lib.hid N9; clear N9
      have FB10 := Lib.hid hx10'; clear hx10'
      have FM10 := Lib.hid M10; clear M10
      have FN10 := Lib.hid N10; clear N10
      go_wp2_with fail
      have RB3 := Lib.hid (below_drew0 w3)
      refine wp_region_held_drew (S := fun _ => True) (by kernel_rfl) trivial (fun _ => ?_)
      refine wpAnyH_gen [] [⟨0, 23, fun x _ => x = .bool true⟩, ⟨1, 24, fun x _ => x = .bool true⟩, ⟨2, 25, fun x _ => x = .agg #[.slice U7 2 u7, .slice V7 2 v7]⟩, ⟨3, 26, fun x _ => x = .agg #[.slice U8 2 u8, .slice V8 2 v8]⟩, ⟨4, 27, fun x w => ∃ (A : Option Addr) (c : Nat), x = .slice A 4 c ∧ Sl w .u64 A 4 c (lmb ((a1 - a0) * (b2 - b0) - (b1 - b0) * (a2 - a0)))⟩, ⟨5, 28, fun x _ => x = .agg #[.int .i64 (sg (a1 - a0)), .slice P9 p9 g9, .int .i64 (sg (b1 - b0)), .slice Q9 q9 h9]⟩, ⟨6, 29, fun x _ => x = .agg #[.int .i64 (sg (a2 - a0)), .slice P10 p10 g10, .int .i64 (sg (b2 - b0)), .slice Q10 q10 h10]⟩, ⟨7, 30, fun x w => ∃ (A : Option Addr) (n c : Nat), x = .agg #[.int .i64 (sg ((a1 - a0) * (b2 - b0) - (b1 - b0) * (a2 - a0))), .slice A n c] ∧ Nm w A n c ((a1 - a0) * (b2 - b0) - (b1 - b0) * (a2 - a0)) ∧ n ≤ 2 * 5 + 1⟩, ⟨8, 31, fun x _ => x = .bool true⟩, ⟨9, 32, fun x _ => x = .bool true⟩, ⟨10, 33, fun x _ => x = .bool true⟩, ⟨11, 34, fun x _ => x = .agg #[.slice U7 2 u7, .slice V7 2 v7]⟩, ⟨12, 35, fun x _ => x = .agg #[.slice U8 2 u8, .slice V8 2 v8]⟩, ⟨13, 36, fun x w => ∃ (A : Option Addr) (c : Nat), x = .slice A 4 c ∧ Sl w .u64 A 4 c (lmb ((a1 - a0) * (a2 - a0) + (b1 - b0) * (b2 - b0)))⟩, ⟨14, 37, fun x _ => x = .agg #[.int .i64 (sg (a1 - a0)), .slice P9 p9 g9, .int .i64 (sg (b1 - b0)), .slice Q9 q9 h9]⟩, ⟨15, 38, fun x _ => x = .agg #[.int .i64 (sg (a2 - a0)), .slice P10 p10 g10, .int .i64 (sg (b2 - b0)), .slice Q10 q10 h10]⟩, ⟨16, 39, fun x w => ∃ (A : Option Addr) (n c : Nat), x = .agg #[.int .i64 (sg ((a1 - a0) * (a2 - a0) + (b1 - b0) * (b2 - b0))), .slice A n c] ∧ Nm w A n c ((a1 - a0) * (a2 - a0) + (b1 - b0) * (b2 - b0)) ∧ n ≤ 2 * 5 + 1⟩, ⟨17, 40, fun x _ => x = .bool true⟩, ⟨18, 41, fun x _ => x = .bool true⟩, ⟨19, 42, fun x _ => x = .bool true⟩, ⟨20, 43, fun x _ => x = .agg #[.slice U7 2 u7, .slice V7 2 v7]⟩, ⟨21, 44, fun x w => ∃ (A : Option Addr) (c : Nat), x = .slice A 4 c ∧ Sl w .u64 A 4 c (lmb ((a1 - a0) * (a1 - a0) + (b1 - b0) * (b1 - b0)))⟩, ⟨22, 45, fun x _ => x = .agg #[.int .i64 (sg (a1 - a0)), .slice P9 p9 g9, .int .i64 (sg (b1 - b0)), .slice Q9 q9 h9]⟩, ⟨23, 46, fun x _ => x = .agg #[.int .i64 (sg (a1 - a0)), .slice P9 p9 g9, .int .i64 (sg (b1 - b0)), .slice Q9 q9 h9]⟩, ⟨24, 47, fun x w => ∃ (A : Option Addr) (n c : Nat), x = .agg #[.int .i64 (sg ((a1 - a0) * (a1 - a0) + (b1 - b0) * (b1 - b0))), .slice A n c] ∧ Nm w A n c ((a1 - a0) * (a1 - a0) + (b1 - b0) * (b1 - b0)) ∧ n ≤ 2 * 5 + 1⟩, ⟨25, 48, fun x _ => x = .bool true⟩, ⟨26, 49, fun x _ => x = .bool true⟩, ⟨27, 6, fun x _ => x = .bool true⟩] (by kernel_rfl) (by kernel_rfl) (fun _ => trivial) ?_ ?_ ?_ ?_ ?_ ?_
      · exact trivial
      · refine ⟨?_, ?_, ?_, ?_, ?_, ?_, ?_, ?_, ?_, ?_, ?_, ?_, ?_, ?_, ?_, ?_, ?_, ?_, ?_, ?_, ?_, ?_, ?_, ?_, ?_, ?_, ?_, ?_, trivial⟩
        all_goals (intro x; (dsimp only; repeat (first | exact Stay.const _ | exact Stay.sl _ _ _ _ | exact Stay.nm _ _ _ _ | exact Stay.bx _ _ _ _ | refine Stay.ex fun _ => ?_ | refine Stay.and ?_ ?_)))
      · exact trivial
      · exact trivial
      · refine ⟨?_, ?_, ?_, ?_, ?_, ?_, ?_, ?_, ?_, ?_, ?_, ?_, ?_, ?_, ?_, ?_, ?_, ?_, ?_, ?_, ?_, ?_, ?_, ?_, ?_, ?_, ?_, ?_, trivial⟩
        · intro a w K hb ht hd hK
          have hbw := Lib.hid (below_tr RB3.out hb); clear hb
          clear ht hd
          have HK := Lib.hid hK; clear hK
          refine wpOp_step (by simp only [List.getElem?_toArray, List.getElem?_cons_succ, List.getElem?_cons_zero]; rfl) (fun K' hK' => ?_)
          have HK' := Lib.hid hK'; clear hK'
          go_simp
          refine (alive5 _).mono ?_
          rintro e w1 ⟨rfl, B⟩
          go_wp2_with fail
          exact HK'.out _ _ (HK.out _ _ B rfl)
        · intro a w K hb ht hd hK
          have hbw := Lib.hid (below_tr RB3.out hb); clear hb
          obtain ⟨x23, hx23, hp23⟩ := hd 0 _ rfl (by kernel_rfl)
          obtain rfl := hp23
          have es23 : a.tmps.getD 23 undef = _ := getD_of hx23; clear hx23
          clear ht hd
          have HK := Lib.hid hK; clear hK
          refine wpOp_step (by simp only [List.getElem?_toArray, List.getElem?_cons_succ, List.getElem?_cons_zero]; rfl) (fun K' hK' => ?_)
          have HK' := Lib.hid hK'; clear hK'
          go_simp
          exact HK'.out _ _ (HK.out _ _ below_rf rfl)
        · intro a w K hb ht hd hK
          have hbw := Lib.hid (below_tr RB3.out hb); clear hb
          have hx7 := (ht 7 rfl).trans rfl
          have es7 : a.tmps.getD 7 undef = _ := getD_of hx7; clear hx7
          obtain ⟨x24, hx24, hp24⟩ := hd 1 _ rfl (by kernel_rfl)
          obtain rfl := hp24
          have es24 : a.tmps.getD 24 undef = _ := getD_of hx24; have gs24 : a.tmps[24]? = some _ := hx24; clear hx24
          clear ht hd
          have c0 := (FB7_3.out.below hbw.out (Nat.le_refl _)).cell 0 (v := .slice U7 2 u7) rfl
          have c1 := (FB7_3.out.below hbw.out (Nat.le_refl _)).cell 1 (v := .slice V7 2 v7) rfl
          have HK := Lib.hid hK; clear hK
          refine wpOp_step (by simp only [List.getElem?_toArray, List.getElem?_cons_succ, List.getElem?_cons_zero]; rfl) (fun K' hK' => ?_)
          have HK' := Lib.hid hK'; clear hK'
          go_simp
          exact HK'.out _ _ (HK.out _ _ below_rf rfl)
        · intro a w K hb ht hd hK
          have hbw := Lib.hid (below_tr RB3.out hb); clear hb
          have hx8 := (ht 8 rfl).trans rfl
          have es8 : a.tmps.getD 8 undef = _ := getD_of hx8; clear hx8
          obtain ⟨x24, hx24, hp24⟩ := hd 1 _ rfl (by kernel_rfl)
          obtain rfl := hp24
          have es24 : a.tmps.getD 24 undef = _ := getD_of hx24; have gs24 : a.tmps[24]? = some _ := hx24; clear hx24
          clear ht hd
          have c0 := (FB8_3.out.below hbw.out (Nat.le_refl _)).cell 0 (v := .slice U8 2 u8) rfl
          have c1 := (FB8_3.out.below hbw.out (Nat.le_refl _)).cell 1 (v := .slice V8 2 v8) rfl
          have HK := Lib.hid hK; clear hK
          refine wpOp_step (by simp only [List.getElem?_toArray, List.getElem?_cons_succ, List.getElem?_cons_zero]; rfl) (fun K' hK' => ?_)
          have HK' := Lib.hid hK'; clear hK'
          go_simp
          exact HK'.out _ _ (HK.out _ _ below_rf rfl)
        · intro a w K hb ht hd hK
          have hbw := Lib.hid (below_tr RB3.out hb); clear hb
          obtain ⟨x25, hx25, hp25⟩ := hd 2 _ rfl (by kernel_rfl)
          obtain rfl := hp25
          have es25 : a.tmps.getD 25 undef = _ := getD_of hx25; clear hx25
          obtain ⟨x26, hx26, hp26⟩ := hd 3 _ rfl (by kernel_rfl)
          obtain rfl := hp26
          have es26 : a.tmps.getD 26 undef = _ := getD_of hx26; clear hx26
          obtain ⟨x24, hx24, hp24⟩ := hd 1 _ rfl (by kernel_rfl)
          obtain rfl := hp24
          have es24 : a.tmps.getD 24 undef = _ := getD_of hx24; have gs24 : a.tmps[24]? = some _ := hx24; clear hx24
          clear ht hd
          have HK := Lib.hid hK; clear hK
          refine wpOp_step (by simp only [List.getElem?_toArray, List.getElem?_cons_succ, List.getElem?_cons_zero]; rfl) (fun K' hK' => ?_)
          have HK' := Lib.hid hK'; clear hK'
          go_simp
          refine (diff_Cross _ _ _ _ _ _ _ _ _ _ _ _ _ (FS7_3.out.below hbw.out (Nat.le_refl _)) (FT7_3.out.below hbw.out (Nat.le_refl _)) (FS8_3.out.below hbw.out (Nat.le_refl _)) (FT8_3.out.below hbw.out (Nat.le_refl _)) (fit_sub ia1 ia0) (fit_sub ib1 ib0) (fit_sub ia2 ia0) (fit_sub ib2 ib0)).mono ?_
          rintro e w1 ⟨⟨A, c, rfl, S⟩, B⟩
          go_wp2_with fail
          exact HK'.out _ _ (HK.out _ _ B ⟨A, c, rfl, S⟩)
        · intro a w K hb ht hd hK
          have hbw := Lib.hid (below_tr RB3.out hb); clear hb
          have hx9 := (ht 9 rfl).trans rfl
          have es9 : a.tmps.getD 9 undef = _ := getD_of hx9; clear hx9
          obtain ⟨x24, hx24, hp24⟩ := hd 1 _ rfl (by kernel_rfl)
          obtain rfl := hp24
          have es24 : a.tmps.getD 24 undef = _ := getD_of hx24; have gs24 : a.tmps[24]? = some _ := hx24; clear hx24
          clear ht hd
          have c0 := (FB9.out.below hbw.out (Nat.le_refl _)).cell 0 (v := .int .i64 (sg (a1 - a0))) rfl
          have c1 := (FB9.out.below hbw.out (Nat.le_refl _)).cell 1 (v := .slice P9 p9 g9) rfl
          have c2 := (FB9.out.below hbw.out (Nat.le_refl _)).cell 2 (v := .int .i64 (sg (b1 - b0))) rfl
          have c3 := (FB9.out.below hbw.out (Nat.le_refl _)).cell 3 (v := .slice Q9 q9 h9) rfl
          have HK := Lib.hid hK; clear hK
          refine wpOp_step (by simp only [List.getElem?_toArray, List.getElem?_cons_succ, List.getElem?_cons_zero]; rfl) (fun K' hK' => ?_)
          have HK' := Lib.hid hK'; clear hK'
          go_simp
          exact HK'.out _ _ (HK.out _ _ below_rf rfl)
        · intro a w K hb ht hd hK
          have hbw := Lib.hid (below_tr RB3.out hb); clear hb
          have hx10 := (ht 10 rfl).trans rfl
          have es10 : a.tmps.getD 10 undef = _ := getD_of hx10; clear hx10
          obtain ⟨x24, hx24, hp24⟩ := hd 1 _ rfl (by kernel_rfl)
          obtain rfl := hp24
          have es24 : a.tmps.getD 24 undef = _ := getD_of hx24; have gs24 : a.tmps[24]? = some _ := hx24; clear hx24
          clear ht hd
          have c0 := (FB10.out.below hbw.out (Nat.le_refl _)).cell 0 (v := .int .i64 (sg (a2 - a0))) rfl
          have c1 := (FB10.out.below hbw.out (Nat.le_refl _)).cell 1 (v := .slice P10 p10 g10) rfl
          have c2 := (FB10.out.below hbw.out (Nat.le_refl _)).cell 2 (v := .int .i64 (sg (b2 - b0))) rfl
          have c3 := (FB10.out.below hbw.out (Nat.le_refl _)).cell 3 (v := .slice Q10 q10 h10) rfl
          have HK := Lib.hid hK; clear hK
          refine wpOp_step (by simp only [List.getElem?_toArray, List.getElem?_cons_succ, List.getElem?_cons_zero]; rfl) (fun K' hK' => ?_)
          have HK' := Lib.hid hK'; clear hK'
          go_simp
          exact HK'.out _ _ (HK.out _ _ below_rf rfl)
        · intro a w K hb ht hd hK
          have hbw := Lib.hid (below_tr RB3.out hb); clear hb
          obtain ⟨x28, hx28, hp28⟩ := hd 5 _ rfl (by kernel_rfl)
          obtain rfl := hp28
          have es28 : a.tmps.getD 28 undef = _ := getD_of hx28; clear hx28
          obtain ⟨x29, hx29, hp29⟩ := hd 6 _ rfl (by kernel_rfl)
          obtain rfl := hp29
          have es29 : a.tmps.getD 29 undef = _ := getD_of hx29; clear hx29
          obtain ⟨x24, hx24, hp24⟩ := hd 1 _ rfl (by kernel_rfl)
          obtain rfl := hp24
          have es24 : a.tmps.getD 24 undef = _ := getD_of hx24; have gs24 : a.tmps[24]? = some _ := hx24; clear hx24
          clear ht hd
          have HK := Lib.hid hK; clear hK
          refine wpOp_step (by simp only [List.getElem?_toArray, List.getElem?_cons_succ, List.getElem?_cons_zero]; rfl) (fun K' hK' => ?_)
          have HK' := Lib.hid hK'; clear hK'
          go_simp
          refine (ref5_Cross _ _ _ _ _ _ _ _ _ _ _ _ _ _ _ _ _ (FM9.out.below hbw.out (Nat.le_refl _)) (FN9.out.below hbw.out (Nat.le_refl _)) (FM10.out.below hbw.out (Nat.le_refl _)) (FN10.out.below hbw.out (Nat.le_refl _)) 5 (by omega) e9 f9 e10 f10).mono ?_
          rintro e w1 ⟨⟨A, n, c, rfl, b, S⟩, B⟩
          go_wp2_with fail
          exact HK'.out _ _ (HK.out _ _ B ⟨A, n, c, rfl, S, b⟩)
        · intro a w K hb ht hd hK
          have hbw := Lib.hid (below_tr RB3.out hb); clear hb
          obtain ⟨x27, hx27, hp27⟩ := hd 4 _ rfl (by kernel_rfl)
          obtain ⟨A4, c4, rfl, S4⟩ := hp27
          have es27 : a.tmps.getD 27 undef = _ := getD_of hx27; clear hx27
          obtain ⟨x30, hx30, hp30⟩ := hd 7 _ rfl (by kernel_rfl)
          obtain ⟨A7, n7, c7, rfl, S7, b7⟩ := hp30
          have es30 : a.tmps.getD 30 undef = _ := getD_of hx30; clear hx30
          obtain ⟨x24, hx24, hp24⟩ := hd 1 _ rfl (by kernel_rfl)
          obtain rfl := hp24
          have es24 : a.tmps.getD 24 undef = _ := getD_of hx24; have gs24 : a.tmps[24]? = some _ := hx24; clear hx24
          clear ht hd
          have HK := Lib.hid hK; clear hK
          refine wpOp_step (by simp only [List.getElem?_toArray, List.getElem?_cons_succ, List.getElem?_cons_zero]; rfl) (fun K' hK' => ?_)
          have HK' := Lib.hid hK'; clear hK'
          go_simp
          refine (law5_limbs _ _ 4 _ _ _ ((a1 - a0) * (b2 - b0) - (b1 - b0) * (a2 - a0)) ((a1 - a0) * (b2 - b0) - (b1 - b0) * (a2 - a0)) 4 rfl _ S4 S7 (fun _ _ => rfl) (by omega) (by omega)).mono ?_
          rintro e w1 ⟨rfl, B⟩
          go_wp2_with fail
          exact HK'.out _ _ (HK.out _ _ B rfl)
        · intro a w K hb ht hd hK
          have hbw := Lib.hid (below_tr RB3.out hb); clear hb
          obtain ⟨x24, hx24, hp24⟩ := hd 1 _ rfl (by kernel_rfl)
          obtain rfl := hp24
          have es24 : a.tmps.getD 24 undef = _ := getD_of hx24; clear hx24
          obtain ⟨x31, hx31, hp31⟩ := hd 8 _ rfl (by kernel_rfl)
          obtain rfl := hp31
          have es31 : a.tmps.getD 31 undef = _ := getD_of hx31; clear hx31
          clear ht hd
          have HK := Lib.hid hK; clear hK
          refine wpOp_step (by simp only [List.getElem?_toArray, List.getElem?_cons_succ, List.getElem?_cons_zero]; rfl) (fun K' hK' => ?_)
          have HK' := Lib.hid hK'; clear hK'
          go_simp
          exact HK'.out _ _ (HK.out _ _ below_rf rfl)
        · intro a w K hb ht hd hK
          have hbw := Lib.hid (below_tr RB3.out hb); clear hb
          obtain ⟨x32, hx32, hp32⟩ := hd 9 _ rfl (by kernel_rfl)
          obtain rfl := hp32
          have es32 : a.tmps.getD 32 undef = _ := getD_of hx32; clear hx32
          clear ht hd
          have HK := Lib.hid hK; clear hK
          refine wpOp_step (by simp only [List.getElem?_toArray, List.getElem?_cons_succ, List.getElem?_cons_zero]; rfl) (fun K' hK' => ?_)
          have HK' := Lib.hid hK'; clear hK'
          go_simp
          exact HK'.out _ _ (HK.out _ _ below_rf rfl)
        · intro a w K hb ht hd hK
          have hbw := Lib.hid (below_tr RB3.out hb); clear hb
          have hx7 := (ht 7 rfl).trans rfl
          have es7 : a.tmps.getD 7 undef = _ := getD_of hx7; clear hx7
          obtain ⟨x33, hx33, hp33⟩ := hd 10 _ rfl (by kernel_rfl)
          obtain rfl := hp33
          have es33 : a.tmps.getD 33 undef = _ := getD_of hx33; have gs33 : a.tmps[33]? = some _ := hx33; clear hx33
          clear ht hd
          have c0 := (FB7_3.out.below hbw.out (Nat.le_refl _)).cell 0 (v := .slice U7 2 u7) rfl
          have c1 := (FB7_3.out.below hbw.out (Nat.le_refl _)).cell 1 (v := .slice V7 2 v7) rfl
          have HK := Lib.hid hK; clear hK
          refine wpOp_step (by simp only [List.getElem?_toArray, List.getElem?_cons_succ, List.getElem?_cons_zero]; rfl) (fun K' hK' => ?_)
          have HK' := Lib.hid hK'; clear hK'
          go_simp
          exact HK'.out _ _ (HK.out _ _ below_rf rfl)
        · intro a w K hb ht hd hK
          have hbw := Lib.hid (below_tr RB3.out hb); clear hb
          have hx8 := (ht 8 rfl).trans rfl
          have es8 : a.tmps.getD 8 undef = _ := getD_of hx8; clear hx8
          obtain ⟨x33, hx33, hp33⟩ := hd 10 _ rfl (by kernel_rfl)
          obtain rfl := hp33
          have es33 : a.tmps.getD 33 undef = _ := getD_of hx33; have gs33 : a.tmps[33]? = some _ := hx33; clear hx33
          clear ht hd
          have c0 := (FB8_3.out.below hbw.out (Nat.le_refl _)).cell 0 (v := .slice U8 2 u8) rfl
          have c1 := (FB8_3.out.below hbw.out (Nat.le_refl _)).cell 1 (v := .slice V8 2 v8) rfl
          have HK := Lib.hid hK; clear hK
          refine wpOp_step (by simp only [List.getElem?_toArray, List.getElem?_cons_succ, List.getElem?_cons_zero]; rfl) (fun K' hK' => ?_)
          have HK' := Lib.hid hK'; clear hK'
          go_simp
          exact HK'.out _ _ (HK.out _ _ below_rf rfl)
        · intro a w K hb ht hd hK
          have hbw := Lib.hid (below_tr RB3.out hb); clear hb
          obtain ⟨x34, hx34, hp34⟩ := hd 11 _ rfl (by kernel_rfl)
          obtain rfl := hp34
          have es34 : a.tmps.getD 34 undef = _ := getD_of hx34; clear hx34
          obtain ⟨x35, hx35, hp35⟩ := hd 12 _ rfl (by kernel_rfl)
          obtain rfl := hp35
          have es35 : a.tmps.getD 35 undef = _ := getD_of hx35; clear hx35
          obtain ⟨x33, hx33, hp33⟩ := hd 10 _ rfl (by kernel_rfl)
          obtain rfl := hp33
          have es33 : a.tmps.getD 33 undef = _ := getD_of hx33; have gs33 : a.tmps[33]? = some _ := hx33; clear hx33
          clear ht hd
          have HK := Lib.hid hK; clear hK
          refine wpOp_step (by simp only [List.getElem?_toArray, List.getElem?_cons_succ, List.getElem?_cons_zero]; rfl) (fun K' hK' => ?_)
          have HK' := Lib.hid hK'; clear hK'
          go_simp
          refine (diff_Dot _ _ _ _ _ _ _ _ _ _ _ _ _ (FS7_3.out.below hbw.out (Nat.le_refl _)) (FT7_3.out.below hbw.out (Nat.le_refl _)) (FS8_3.out.below hbw.out (Nat.le_refl _)) (FT8_3.out.below hbw.out (Nat.le_refl _)) (fit_sub ia1 ia0) (fit_sub ib1 ib0) (fit_sub ia2 ia0) (fit_sub ib2 ib0)).mono ?_
          rintro e w1 ⟨⟨A, c, rfl, S⟩, B⟩
          go_wp2_with fail
          exact HK'.out _ _ (HK.out _ _ B ⟨A, c, rfl, S⟩)
        · intro a w K hb ht hd hK
          have hbw := Lib.hid (below_tr RB3.out hb); clear hb
          have hx9 := (ht 9 rfl).trans rfl
          have es9 : a.tmps.getD 9 undef = _ := getD_of hx9; clear hx9
          obtain ⟨x33, hx33, hp33⟩ := hd 10 _ rfl (by kernel_rfl)
          obtain rfl := hp33
          have es33 : a.tmps.getD 33 undef = _ := getD_of hx33; have gs33 : a.tmps[33]? = some _ := hx33; clear hx33
          clear ht hd
          have c0 := (FB9.out.below hbw.out (Nat.le_refl _)).cell 0 (v := .int .i64 (sg (a1 - a0))) rfl
          have c1 := (FB9.out.below hbw.out (Nat.le_refl _)).cell 1 (v := .slice P9 p9 g9) rfl
          have c2 := (FB9.out.below hbw.out (Nat.le_refl _)).cell 2 (v := .int .i64 (sg (b1 - b0))) rfl
          have c3 := (FB9.out.below hbw.out (Nat.le_refl _)).cell 3 (v := .slice Q9 q9 h9) rfl
          have HK := Lib.hid hK; clear hK
          refine wpOp_step (by simp only [List.getElem?_toArray, List.getElem?_cons_succ, List.getElem?_cons_zero]; rfl) (fun K' hK' => ?_)
          have HK' := Lib.hid hK'; clear hK'
          go_simp
          exact HK'.out _ _ (HK.out _ _ below_rf rfl)
        · intro a w K hb ht hd hK
          have hbw := Lib.hid (below_tr RB3.out hb); clear hb
          have hx10 := (ht 10 rfl).trans rfl
          have es10 : a.tmps.getD 10 undef = _ := getD_of hx10; clear hx10
          obtain ⟨x33, hx33, hp33⟩ := hd 10 _ rfl (by kernel_rfl)
          obtain rfl := hp33
          have es33 : a.tmps.getD 33 undef = _ := getD_of hx33; have gs33 : a.tmps[33]? = some _ := hx33; clear hx33
          clear ht hd
          have c0 := (FB10.out.below hbw.out (Nat.le_refl _)).cell 0 (v := .int .i64 (sg (a2 - a0))) rfl
          have c1 := (FB10.out.below hbw.out (Nat.le_refl _)).cell 1 (v := .slice P10 p10 g10) rfl
          have c2 := (FB10.out.below hbw.out (Nat.le_refl _)).cell 2 (v := .int .i64 (sg (b2 - b0))) rfl
          have c3 := (FB10.out.below hbw.out (Nat.le_refl _)).cell 3 (v := .slice Q10 q10 h10) rfl
          have HK := Lib.hid hK; clear hK
          refine wpOp_step (by simp only [List.getElem?_toArray, List.getElem?_cons_succ, List.getElem?_cons_zero]; rfl) (fun K' hK' => ?_)
          have HK' := Lib.hid hK'; clear hK'
          go_simp
          exact HK'.out _ _ (HK.out _ _ below_rf rfl)
        · intro a w K hb ht hd hK
          have hbw := Lib.hid (below_tr RB3.out hb); clear hb
          obtain ⟨x37, hx37, hp37⟩ := hd 14 _ rfl (by kernel_rfl)
          obtain rfl := hp37
          have es37 : a.tmps.getD 37 undef = _ := getD_of hx37; clear hx37
          obtain ⟨x38, hx38, hp38⟩ := hd 15 _ rfl (by kernel_rfl)
          obtain rfl := hp38
          have es38 : a.tmps.getD 38 undef = _ := getD_of hx38; clear hx38
          obtain ⟨x33, hx33, hp33⟩ := hd 10 _ rfl (by kernel_rfl)
          obtain rfl := hp33
          have es33 : a.tmps.getD 33 undef = _ := getD_of hx33; have gs33 : a.tmps[33]? = some _ := hx33; clear hx33
          clear ht hd
          have HK := Lib.hid hK; clear hK
          refine wpOp_step (by simp only [List.getElem?_toArray, List.getElem?_cons_succ, List.getElem?_cons_zero]; rfl) (fun K' hK' => ?_)
          have HK' := Lib.hid hK'; clear hK'
          go_simp
          refine (ref5_Dot _ _ _ _ _ _ _ _ _ _ _ _ _ _ _ _ _ (FM9.out.below hbw.out (Nat.le_refl _)) (FN9.out.below hbw.out (Nat.le_refl _)) (FM10.out.below hbw.out (Nat.le_refl _)) (FN10.out.below hbw.out (Nat.le_refl _)) 5 (by omega) e9 f9 e10 f10).mono ?_
          rintro e w1 ⟨⟨A, n, c, rfl, b, S⟩, B⟩
          go_wp2_with fail
          exact HK'.out _ _ (HK.out _ _ B ⟨A, n, c, rfl, S, b⟩)
        · intro a w K hb ht hd hK
          have hbw := Lib.hid (below_tr RB3.out hb); clear hb
          obtain ⟨x36, hx36, hp36⟩ := hd 13 _ rfl (by kernel_rfl)
          obtain ⟨A13, c13, rfl, S13⟩ := hp36
          have es36 : a.tmps.getD 36 undef = _ := getD_of hx36; clear hx36
          obtain ⟨x39, hx39, hp39⟩ := hd 16 _ rfl (by kernel_rfl)
          obtain ⟨A16, n16, c16, rfl, S16, b16⟩ := hp39
          have es39 : a.tmps.getD 39 undef = _ := getD_of hx39; clear hx39
          obtain ⟨x33, hx33, hp33⟩ := hd 10 _ rfl (by kernel_rfl)
          obtain rfl := hp33
          have es33 : a.tmps.getD 33 undef = _ := getD_of hx33; have gs33 : a.tmps[33]? = some _ := hx33; clear hx33
          clear ht hd
          have HK := Lib.hid hK; clear hK
          refine wpOp_step (by simp only [List.getElem?_toArray, List.getElem?_cons_succ, List.getElem?_cons_zero]; rfl) (fun K' hK' => ?_)
          have HK' := Lib.hid hK'; clear hK'
          go_simp
          refine (law5_limbs _ _ 4 _ _ _ ((a1 - a0) * (a2 - a0) + (b1 - b0) * (b2 - b0)) ((a1 - a0) * (a2 - a0) + (b1 - b0) * (b2 - b0)) 4 rfl _ S13 S16 (fun _ _ => rfl) (by omega) (by omega)).mono ?_
          rintro e w1 ⟨rfl, B⟩
          go_wp2_with fail
          exact HK'.out _ _ (HK.out _ _ B rfl)
        · intro a w K hb ht hd hK
          have hbw := Lib.hid (below_tr RB3.out hb); clear hb
          obtain ⟨x33, hx33, hp33⟩ := hd 10 _ rfl (by kernel_rfl)
          obtain rfl := hp33
          have es33 : a.tmps.getD 33 undef = _ := getD_of hx33; clear hx33
          obtain ⟨x40, hx40, hp40⟩ := hd 17 _ rfl (by kernel_rfl)
          obtain rfl := hp40
          have es40 : a.tmps.getD 40 undef = _ := getD_of hx40; clear hx40
          clear ht hd
          have HK := Lib.hid hK; clear hK
          refine wpOp_step (by simp only [List.getElem?_toArray, List.getElem?_cons_succ, List.getElem?_cons_zero]; rfl) (fun K' hK' => ?_)
          have HK' := Lib.hid hK'; clear hK'
          go_simp
          exact HK'.out _ _ (HK.out _ _ below_rf rfl)
        · intro a w K hb ht hd hK
          have hbw := Lib.hid (below_tr RB3.out hb); clear hb
          obtain ⟨x41, hx41, hp41⟩ := hd 18 _ rfl (by kernel_rfl)
          obtain rfl := hp41
          have es41 : a.tmps.getD 41 undef = _ := getD_of hx41; clear hx41
          clear ht hd
          have HK := Lib.hid hK; clear hK
          refine wpOp_step (by simp only [List.getElem?_toArray, List.getElem?_cons_succ, List.getElem?_cons_zero]; rfl) (fun K' hK' => ?_)
          have HK' := Lib.hid hK'; clear hK'
          go_simp
          exact HK'.out _ _ (HK.out _ _ below_rf rfl)
        · intro a w K hb ht hd hK
          have hbw := Lib.hid (below_tr RB3.out hb); clear hb
          have hx7 := (ht 7 rfl).trans rfl
          have es7 : a.tmps.getD 7 undef = _ := getD_of hx7; clear hx7
          obtain ⟨x42, hx42, hp42⟩ := hd 19 _ rfl (by kernel_rfl)
          obtain rfl := hp42
          have es42 : a.tmps.getD 42 undef = _ := getD_of hx42; have gs42 : a.tmps[42]? = some _ := hx42; clear hx42
          clear ht hd
          have c0 := (FB7_3.out.below hbw.out (Nat.le_refl _)).cell 0 (v := .slice U7 2 u7) rfl
          have c1 := (FB7_3.out.below hbw.out (Nat.le_refl _)).cell 1 (v := .slice V7 2 v7) rfl
          have HK := Lib.hid hK; clear hK
          refine wpOp_step (by simp only [List.getElem?_toArray, List.getElem?_cons_succ, List.getElem?_cons_zero]; rfl) (fun K' hK' => ?_)
          have HK' := Lib.hid hK'; clear hK'
          go_simp
          exact HK'.out _ _ (HK.out _ _ below_rf rfl)
        · intro a w K hb ht hd hK
          have hbw := Lib.hid (below_tr RB3.out hb); clear hb
          obtain ⟨x43, hx43, hp43⟩ := hd 20 _ rfl (by kernel_rfl)
          obtain rfl := hp43
          have es43 : a.tmps.getD 43 undef = _ := getD_of hx43; clear hx43
          obtain ⟨x42, hx42, hp42⟩ := hd 19 _ rfl (by kernel_rfl)
          obtain rfl := hp42
          have es42 : a.tmps.getD 42 undef = _ := getD_of hx42; have gs42 : a.tmps[42]? = some _ := hx42; clear hx42
          clear ht hd
          have HK := Lib.hid hK; clear hK
          refine wpOp_step (by simp only [List.getElem?_toArray, List.getElem?_cons_succ, List.getElem?_cons_zero]; rfl) (fun K' hK' => ?_)
          have HK' := Lib.hid hK'; clear hK'
          go_simp
          refine (diff_Norm _ _ _ _ _ _ _ (FS7_3.out.below hbw.out (Nat.le_refl _)) (FT7_3.out.below hbw.out (Nat.le_refl _)) (fit_sub ia1 ia0) (fit_sub ib1 ib0)).mono ?_
          rintro e w1 ⟨⟨A, c, rfl, S⟩, B⟩
          go_wp2_with fail
          exact HK'.out _ _ (HK.out _ _ B ⟨A, c, rfl, S⟩)
        · intro a w K hb ht hd hK
          have hbw := Lib.hid (below_tr RB3.out hb); clear hb
          have hx9 := (ht 9 rfl).trans rfl
          have es9 : a.tmps.getD 9 undef = _ := getD_of hx9; clear hx9
          obtain ⟨x42, hx42, hp42⟩ := hd 19 _ rfl (by kernel_rfl)
          obtain rfl := hp42
          have es42 : a.tmps.getD 42 undef = _ := getD_of hx42; have gs42 : a.tmps[42]? = some _ := hx42; clear hx42
          clear ht hd
          have c0 := (FB9.out.below hbw.out (Nat.le_refl _)).cell 0 (v := .int .i64 (sg (a1 - a0))) rfl
          have c1 := (FB9.out.below hbw.out (Nat.le_refl _)).cell 1 (v := .slice P9 p9 g9) rfl
          have c2 := (FB9.out.below hbw.out (Nat.le_refl _)).cell 2 (v := .int .i64 (sg (b1 - b0))) rfl
          have c3 := (FB9.out.below hbw.out (Nat.le_refl _)).cell 3 (v := .slice Q9 q9 h9) rfl
          have HK := Lib.hid hK; clear hK
          refine wpOp_step (by simp only [List.getElem?_toArray, List.getElem?_cons_succ, List.getElem?_cons_zero]; rfl) (fun K' hK' => ?_)
          have HK' := Lib.hid hK'; clear hK'
          go_simp
          exact HK'.out _ _ (HK.out _ _ below_rf rfl)
        · intro a w K hb ht hd hK
          have hbw := Lib.hid (below_tr RB3.out hb); clear hb
          have hx9 := (ht 9 rfl).trans rfl
          have es9 : a.tmps.getD 9 undef = _ := getD_of hx9; clear hx9
          obtain ⟨x42, hx42, hp42⟩ := hd 19 _ rfl (by kernel_rfl)
          obtain rfl := hp42
          have es42 : a.tmps.getD 42 undef = _ := getD_of hx42; have gs42 : a.tmps[42]? = some _ := hx42; clear hx42
          clear ht hd
          have c0 := (FB9.out.below hbw.out (Nat.le_refl _)).cell 0 (v := .int .i64 (sg (a1 - a0))) rfl
          have c1 := (FB9.out.below hbw.out (Nat.le_refl _)).cell 1 (v := .slice P9 p9 g9) rfl
          have c2 := (FB9.out.below hbw.out (Nat.le_refl _)).cell 2 (v := .int .i64 (sg (b1 - b0))) rfl
          have c3 := (FB9.out.below hbw.out (Nat.le_refl _)).cell 3 (v := .slice Q9 q9 h9) rfl
          have HK := Lib.hid hK; clear hK
          refine wpOp_step (by simp only [List.getElem?_toArray, List.getElem?_cons_succ, List.getElem?_cons_zero]; rfl) (fun K' hK' => ?_)
          have HK' := Lib.hid hK'; clear hK'
          go_simp
          exact HK'.out _ _ (HK.out _ _ below_rf rfl)
        · intro a w K hb ht hd hK
          have hbw := Lib.hid (below_tr RB3.out hb); clear hb
          obtain ⟨x45, hx45, hp45⟩ := hd 22 _ rfl (by kernel_rfl)
          obtain rfl := hp45
          have es45 : a.tmps.getD 45 undef = _ := getD_of hx45; clear hx45
          obtain ⟨x46, hx46, hp46⟩ := hd 23 _ rfl (by kernel_rfl)
          obtain rfl := hp46
          have es46 : a.tmps.getD 46 undef = _ := getD_of hx46; clear hx46
          obtain ⟨x42, hx42, hp42⟩ := hd 19 _ rfl (by kernel_rfl)
          obtain rfl := hp42
          have es42 : a.tmps.getD 42 undef = _ := getD_of hx42; have gs42 : a.tmps[42]? = some _ := hx42; clear hx42
          clear ht hd
          have HK := Lib.hid hK; clear hK
          refine wpOp_step (by simp only [List.getElem?_toArray, List.getElem?_cons_succ, List.getElem?_cons_zero]; rfl) (fun K' hK' => ?_)
          have HK' := Lib.hid hK'; clear hK'
          go_simp
          refine (ref5_Dot _ _ _ _ _ _ _ _ _ _ _ _ _ _ _ _ _ (FM9.out.below hbw.out (Nat.le_refl _)) (FN9.out.below hbw.out (Nat.le_refl _)) (FM9.out.below hbw.out (Nat.le_refl _)) (FN9.out.below hbw.out (Nat.le_refl _)) 5 (by omega) e9 f9 e9 f9).mono ?_
          rintro e w1 ⟨⟨A, n, c, rfl, b, S⟩, B⟩
          go_wp2_with fail
          exact HK'.out _ _ (HK.out _ _ B ⟨A, n, c, rfl, S, b⟩)
        · intro a w K hb ht hd hK
          have hbw := Lib.hid (below_tr RB3.out hb); clear hb
          obtain ⟨x44, hx44, hp44⟩ := hd 21 _ rfl (by kernel_rfl)
          obtain ⟨A21, c21, rfl, S21⟩ := hp44
          have es44 : a.tmps.getD 44 undef = _ := getD_of hx44; clear hx44
          obtain ⟨x47, hx47, hp47⟩ := hd 24 _ rfl (by kernel_rfl)
          obtain ⟨A24, n24, c24, rfl, S24, b24⟩ := hp47
          have es47 : a.tmps.getD 47 undef = _ := getD_of hx47; clear hx47
          obtain ⟨x42, hx42, hp42⟩ := hd 19 _ rfl (by kernel_rfl)
          obtain rfl := hp42
          have es42 : a.tmps.getD 42 undef = _ := getD_of hx42; have gs42 : a.tmps[42]? = some _ := hx42; clear hx42
          clear ht hd
          have HK := Lib.hid hK; clear hK
          refine wpOp_step (by simp only [List.getElem?_toArray, List.getElem?_cons_succ, List.getElem?_cons_zero]; rfl) (fun K' hK' => ?_)
          have HK' := Lib.hid hK'; clear hK'
          go_simp
          refine (law5_limbs _ _ 4 _ _ _ ((a1 - a0) * (a1 - a0) + (b1 - b0) * (b1 - b0)) ((a1 - a0) * (a1 - a0) + (b1 - b0) * (b1 - b0)) 4 rfl _ S21 S24 (fun _ _ => rfl) (by omega) (by omega)).mono ?_
          rintro e w1 ⟨rfl, B⟩
          go_wp2_with fail
          exact HK'.out _ _ (HK.out _ _ B rfl)
        · intro a w K hb ht hd hK
          have hbw := Lib.hid (below_tr RB3.out hb); clear hb
          obtain ⟨x42, hx42, hp42⟩ := hd 19 _ rfl (by kernel_rfl)
          obtain rfl := hp42
          have es42 : a.tmps.getD 42 undef = _ := getD_of hx42; clear hx42
          obtain ⟨x48, hx48, hp48⟩ := hd 25 _ rfl (by kernel_rfl)
          obtain rfl := hp48
          have es48 : a.tmps.getD 48 undef = _ := getD_of hx48; clear hx48
          clear ht hd
          have HK := Lib.hid hK; clear hK
          refine wpOp_step (by simp only [List.getElem?_toArray, List.getElem?_cons_succ, List.getElem?_cons_zero]; rfl) (fun K' hK' => ?_)
          have HK' := Lib.hid hK'; clear hK'
          go_simp
          exact HK'.out _ _ (HK.out _ _ below_rf rfl)
        · intro a w K hb ht hd hK
          have hbw := Lib.hid (below_tr RB3.out hb); clear hb
          obtain ⟨x49, hx49, hp49⟩ := hd 26 _ rfl (by kernel_rfl)
          obtain rfl := hp49
          have es49 : a.tmps.getD 49 undef = _ := getD_of hx49; clear hx49
          clear ht hd
          have HK := Lib.hid hK; clear hK
          refine wpOp_step (by simp only [List.getElem?_toArray, List.getElem?_cons_succ, List.getElem?_cons_zero]; rfl) (fun K' hK' => ?_)
          have HK' := Lib.hid hK'; clear hK'
          go_simp
          exact HK'.out _ _ (HK.out _ _ below_rf rfl)
      · intro w4 X B hb hv hx hd
        simp only [List.foldl_cons, List.foldl_nil, Act.put, List.setIfInBounds_toArray, List.set_cons_zero, List.set_cons_succ, ptrTo]
        obtain ⟨hv0, hv1, hv2, hv3, hv4, hv5, hv6, hv7, hv8, hv9, hv10, hv11, hv12, hv13, hv14, hv15, hv16, hv17, hv18, hv19, hv20, hv21, hv22, hv23, hv24, hv25, hv26, hv27, -⟩ := hv
        clear hd
        have hV0 : (fun x _ => x = .bool true) (X 23) w4 := hv0; clear hv0; have hv0 := hV0; clear hV0; generalize X 23 = X23 at *
        have hV1 : (fun x _ => x = .bool true) (X 24) w4 := hv1; clear hv1; have hv1 := hV1; clear hV1; generalize X 24 = X24 at *
        have hV2 : (fun x _ => x = .agg #[.slice U7 2 u7, .slice V7 2 v7]) (X 25) w4 := hv2; clear hv2; have hv2 := hV2; clear hV2; generalize X 25 = X25 at *
        have hV3 : (fun x _ => x = .agg #[.slice U8 2 u8, .slice V8 2 v8]) (X 26) w4 := hv3; clear hv3; have hv3 := hV3; clear hV3; generalize X 26 = X26 at *
        have hV4 : (fun x w => ∃ (A : Option Addr) (c : Nat), x = .slice A 4 c ∧ Sl w .u64 A 4 c (lmb ((a1 - a0) * (b2 - b0) - (b1 - b0) * (a2 - a0)))) (X 27) w4 := hv4; clear hv4; have hv4 := hV4; clear hV4; generalize X 27 = X27 at *
        have hV5 : (fun x _ => x = .agg #[.int .i64 (sg (a1 - a0)), .slice P9 p9 g9, .int .i64 (sg (b1 - b0)), .slice Q9 q9 h9]) (X 28) w4 := hv5; clear hv5; have hv5 := hV5; clear hV5; generalize X 28 = X28 at *
        have hV6 : (fun x _ => x = .agg #[.int .i64 (sg (a2 - a0)), .slice P10 p10 g10, .int .i64 (sg (b2 - b0)), .slice Q10 q10 h10]) (X 29) w4 := hv6; clear hv6; have hv6 := hV6; clear hV6; generalize X 29 = X29 at *
        have hV7 : (fun x w => ∃ (A : Option Addr) (n c : Nat), x = .agg #[.int .i64 (sg ((a1 - a0) * (b2 - b0) - (b1 - b0) * (a2 - a0))), .slice A n c] ∧ Nm w A n c ((a1 - a0) * (b2 - b0) - (b1 - b0) * (a2 - a0)) ∧ n ≤ 2 * 5 + 1) (X 30) w4 := hv7; clear hv7; have hv7 := hV7; clear hV7; generalize X 30 = X30 at *
        have hV8 : (fun x _ => x = .bool true) (X 31) w4 := hv8; clear hv8; have hv8 := hV8; clear hV8; generalize X 31 = X31 at *
        have hV9 : (fun x _ => x = .bool true) (X 32) w4 := hv9; clear hv9; have hv9 := hV9; clear hV9; generalize X 32 = X32 at *
        have hV10 : (fun x _ => x = .bool true) (X 33) w4 := hv10; clear hv10; have hv10 := hV10; clear hV10; generalize X 33 = X33 at *
        have hV11 : (fun x _ => x = .agg #[.slice U7 2 u7, .slice V7 2 v7]) (X 34) w4 := hv11; clear hv11; have hv11 := hV11; clear hV11; generalize X 34 = X34 at *
        have hV12 : (fun x _ => x = .agg #[.slice U8 2 u8, .slice V8 2 v8]) (X 35) w4 := hv12; clear hv12; have hv12 := hV12; clear hV12; generalize X 35 = X35 at *
        have hV13 : (fun x w => ∃ (A : Option Addr) (c : Nat), x = .slice A 4 c ∧ Sl w .u64 A 4 c (lmb ((a1 - a0) * (a2 - a0) + (b1 - b0) * (b2 - b0)))) (X 36) w4 := hv13; clear hv13; have hv13 := hV13; clear hV13; generalize X 36 = X36 at *
        have hV14 : (fun x _ => x = .agg #[.int .i64 (sg (a1 - a0)), .slice P9 p9 g9, .int .i64 (sg (b1 - b0)), .slice Q9 q9 h9]) (X 37) w4 := hv14; clear hv14; have hv14 := hV14; clear hV14; generalize X 37 = X37 at *
        have hV15 : (fun x _ => x = .agg #[.int .i64 (sg (a2 - a0)), .slice P10 p10 g10, .int .i64 (sg (b2 - b0)), .slice Q10 q10 h10]) (X 38) w4 := hv15; clear hv15; have hv15 := hV15; clear hV15; generalize X 38 = X38 at *
        have hV16 : (fun x w => ∃ (A : Option Addr) (n c : Nat), x = .agg #[.int .i64 (sg ((a1 - a0) * (a2 - a0) + (b1 - b0) * (b2 - b0))), .slice A n c] ∧ Nm w A n c ((a1 - a0) * (a2 - a0) + (b1 - b0) * (b2 - b0)) ∧ n ≤ 2 * 5 + 1) (X 39) w4 := hv16; clear hv16; have hv16 := hV16; clear hV16; generalize X 39 = X39 at *
        have hV17 : (fun x _ => x = .bool true) (X 40) w4 := hv17; clear hv17; have hv17 := hV17; clear hV17; generalize X 40 = X40 at *
        have hV18 : (fun x _ => x = .bool true) (X 41) w4 := hv18; clear hv18; have hv18 := hV18; clear hV18; generalize X 41 = X41 at *
        have hV19 : (fun x _ => x = .bool true) (X 42) w4 := hv19; clear hv19; have hv19 := hV19; clear hV19; generalize X 42 = X42 at *
        have hV20 : (fun x _ => x = .agg #[.slice U7 2 u7, .slice V7 2 v7]) (X 43) w4 := hv20; clear hv20; have hv20 := hV20; clear hV20; generalize X 43 = X43 at *
        have hV21 : (fun x w => ∃ (A : Option Addr) (c : Nat), x = .slice A 4 c ∧ Sl w .u64 A 4 c (lmb ((a1 - a0) * (a1 - a0) + (b1 - b0) * (b1 - b0)))) (X 44) w4 := hv21; clear hv21; have hv21 := hV21; clear hV21; generalize X 44 = X44 at *
        have hV22 : (fun x _ => x = .agg #[.int .i64 (sg (a1 - a0)), .slice P9 p9 g9, .int .i64 (sg (b1 - b0)), .slice Q9 q9 h9]) (X 45) w4 := hv22; clear hv22; have hv22 := hV22; clear hV22; generalize X 45 = X45 at *
        have hV23 : (fun x _ => x = .agg #[.int .i64 (sg (a1 - a0)), .slice P9 p9 g9, .int .i64 (sg (b1 - b0)), .slice Q9 q9 h9]) (X 46) w4 := hv23; clear hv23; have hv23 := hV23; clear hV23; generalize X 46 = X46 at *
        have hV24 : (fun x w => ∃ (A : Option Addr) (n c : Nat), x = .agg #[.int .i64 (sg ((a1 - a0) * (a1 - a0) + (b1 - b0) * (b1 - b0))), .slice A n c] ∧ Nm w A n c ((a1 - a0) * (a1 - a0) + (b1 - b0) * (b1 - b0)) ∧ n ≤ 2 * 5 + 1) (X 47) w4 := hv24; clear hv24; have hv24 := hV24; clear hV24; generalize X 47 = X47 at *
        have hV25 : (fun x _ => x = .bool true) (X 48) w4 := hv25; clear hv25; have hv25 := hV25; clear hV25; generalize X 48 = X48 at *
        have hV26 : (fun x _ => x = .bool true) (X 49) w4 := hv26; clear hv26; have hv26 := hV26; clear hV26; generalize X 49 = X49 at *
        have hV27 : (fun x _ => x = .bool true) (X 6) w4 := hv27; clear hv27; have hv27 := hV27; clear hV27; generalize X 6 = X6 at *
        obtain rfl := hv0
        obtain rfl := hv1
        obtain rfl := hv2
        obtain rfl := hv3
        clear hv4
        obtain rfl := hv5
        obtain rfl := hv6
        clear hv7
        obtain rfl := hv8
        obtain rfl := hv9
        obtain rfl := hv10
        obtain rfl := hv11
        obtain rfl := hv12
        clear hv13
        obtain rfl := hv14
        obtain rfl := hv15
        clear hv16
        obtain rfl := hv17
        obtain rfl := hv18
        obtain rfl := hv19
        obtain rfl := hv20
        clear hv21
        obtain rfl := hv22
        obtain rfl := hv23
        clear hv24
        obtain rfl := hv25
        obtain rfl := hv26
        obtain rfl := hv27
        have RC := Lib.hid (below_tr RB3.out hb); clear hb
        have FP_4 := Lib.hid (FP_3.out.below RC.out (Nat.le_refl _))
        have FQ_4 := Lib.hid (FQ_3.out.below RC.out (Nat.le_refl _))
        have FR_4 := Lib.hid (FR_3.out.below RC.out (Nat.le_refl _))
        have FB7_4 := Lib.hid (FB7_3.out.below RC.out (Nat.le_refl _))
        have FS7_4 := Lib.hid (FS7_3.out.below RC.out (Nat.le_refl _))
        have FT7_4 := Lib.hid (FT7_3.out.below RC.out (Nat.le_refl _))
        have FB8_4 := Lib.hid (FB8_3.out.below RC.out (Nat.le_refl _))
        have FS8_4 := Lib.hid (FS8_3.out.below RC.out (Nat.le_refl _))
        have FT8_4 := Lib.hid (FT8_3.out.below RC.out (Nat.le_refl _))
        have FB9_4 := Lib.hid (FB9.out.below RC.out (Nat.le_refl _))
        have FM9_4 := Lib.hid (FM9.out.below RC.out (Nat.le_refl _))
        have FN9_4 := Lib.hid (FN9.out.below RC.out (Nat.le_refl _))
        have FB10_4 := Lib.hid (FB10.out.below RC.out (Nat.le_refl _))
        have FM10_4 := Lib.hid (FM10.out.below RC.out (Nat.le_refl _))
        have FN10_4 := Lib.hid (FN10.out.below RC.out (Nat.le_refl _))
        have HB4 := Lib.hid (HB3.out.trans (RC.out.mono HB3.out.size))
        clear HB3 FP_3 FQ_3 FR_3 FB7_3 FS7_3 FT7_3 FB8_3 FS8_3 FT8_3 FB9 FM9 FN9 FB10 FM10 FN10 RC RB3
        go_wp2_with fail
        go_ret
        exact ⟨rfl, HB4.out⟩

set_option maxRecDepth 100000 in
theorem lifted (os : Os) (started : os.Started) (H : Type) (enc : TypeId × Value → H) :
    ReturnsInHanded {} Try.checked os 4 .any (Rows.diffProductsSpec.pre6 enc Try.prog Try.f4 Rows.diffProductsRow.domain false) (Rows.diffProductsSpec.post enc Try.prog Try.f4 false true false false) := by
  refine returnsInHanded_of_change (C := Try.checked) own started (by kernel_rfl) Try.func4
    (ChangeSpec.witness6 (enc := enc) (C := Try.checked) false ⟨#[], #[.agg #[.int .i64 0, .int .i64 0], .agg #[.int .i64 0, .int .i64 0], .agg #[.int .i64 0, .int .i64 0]], []⟩ 8 (by kernel_rfl) (by kernel_rfl) (by kernel_rfl) (by kernel_rfl)) ?_
  intro W base args ds gs before hval0 hW hcnd _
  have hval : ∀ (j : Nat) t v, Try.f4.params[j]? = some t → args[j]? = some v → Value.okWide Try.prog W .any base t v := hval0
  have hW' := hW
  obtain ⟨p, q, hA0, hV, rfl, hfz, hnd⟩ := hW
  have hA : DataW.TrodAll enc Try.prog W 0 (fun _ => true) true Try.f4.params.toList args.toList ds p := hA0
  rw [Try.params4] at hA hval
  obtain ⟨v0, vs0, d0, ds0, p0, q0, hargs, rfl, rfl, h0, r0⟩ := trodAll_cons hA
  obtain ⟨v1, vs1, d1, ds1, p1, q1, rfl, rfl, rfl, h1, r1⟩ := trodAll_cons r0
  obtain ⟨v2, vs2, d2, ds2, p2, q2, rfl, rfl, rfl, h2, r2⟩ := trodAll_cons r1
  obtain ⟨rfl, rfl, rfl⟩ := trodAll_nil r2
  obtain rfl : args = #[v0, v1, v2] := by cases args; simp_all
  obtain ⟨rfl, rfl⟩ := trodVars_none hV
  have k0 := h0
  have lt0 : ∀ x ∈ p0, x.block < W.heap.size := by obtain ⟨m, hm⟩ := k0; exact DataW.trod_lt m _ _ _ hm
  have k1 := h1
  have lt1 : ∀ x ∈ p1, x.block < W.heap.size := by obtain ⟨m, hm⟩ := k1; exact DataW.trod_lt m _ _ _ hm
  have k2 := h2
  have lt2 : ∀ x ∈ p2, x.block < W.heap.size := by obtain ⟨m, hm⟩ := k2; exact DataW.trod_lt m _ _ _ hm
  obtain ⟨a0, b0, rfl, w0, x0⟩ := Op.open_pt Try.underlying23 rfl rfl rfl rfl Try.underlying2 (by kernel_rfl) (by kernel_rfl) h0
  obtain ⟨a1, b1, rfl, w1, x1⟩ := Op.open_pt Try.underlying23 rfl rfl rfl rfl Try.underlying2 (by kernel_rfl) (by kernel_rfl) h1
  obtain ⟨a2, b2, rfl, w2, x2⟩ := Op.open_pt Try.underlying23 rfl rfl rfl rfl Try.underlying2 (by kernel_rfl) (by kernel_rfl) h2
  clear hA0 hval0
  refine (walk a0 b0 w0 x0 a1 b1 w1 x1 a2 b2 w2 x2).mono fun e W' ⟨he, bel⟩ => ?_
  subst he
  exact ⟨_, rfl, _, _, _, [], _, [], hW', trodAll_mk1 (shut_bool Try.underlying4 _), (trodAll_cons_mk (Below.trod laidOut (by kernel_rfl) (of_decide_eq_true (by kernel_rfl)) k0 bel lt0) (trodAll_cons_mk (Below.trod laidOut (by kernel_rfl) (of_decide_eq_true (by kernel_rfl)) k1 bel lt1) (trodAll_cons_mk (Below.trod laidOut (by kernel_rfl) (of_decide_eq_true (by kernel_rfl)) k2 bel lt2) trodAll_mk0))), rfl, bel.frame _, fun h => by cases h⟩

theorem over : Rows.diffProductsRow.holds Try.pinned (OpenSpec.ofChange Rows.diffProductsSpec) :=
  OpenClaim.holds_of_wide 4 Try.f4 rfl rfl rfl rfl rfl rfl rfl ⟨rfl, rfl, rfl, rfl, rfl⟩ rfl rfl rfl rfl rfl (by kernel_rfl) Try.func4 (by kernel_rfl)
    (of_decide_eq_true (by kernel_rfl)) (by unfold Func.isWrapper; first | (rw [if_pos (by decide +kernel)]; kernel_rfl) | (rw [if_neg (by decide +kernel)]; exact ⟨rfl, rfl⟩))
    (fun os started H enc _ => lifted os started H enc)

/-- THE STATEMENT -/
theorem proved : Rows.DiffProductsSaid := over
#print axioms proved
end Go.Proofs.Ytfjanlfbnliokaa.diffProducts
