/- DiffTriangle: for every input the law returns true, and each argument reads afterwards as it read before. -/
import Derived.Test.YtfjanlfbnliokaaRows
import Derived.Test.YtfjanlfbnliokaaLaw5
import Derived.Test.YtfjanlfbnliokaaGeo
import Derived.Test.YtfjanlfbnliokaaOpenPt
import Derived.WalkKit
import Derived.ProofKit
import Derived.OpenShut
import Derived.Below
namespace Go.Proofs.Ytfjanlfbnliokaa.diffTriangle
open Go.ChangeShapes Go.WideShapes Go.ChangeAt Go.RowKit Wd
set_option linter.unusedVariables false
set_option linter.unusedSimpArgs false

theorem own : ownKnob Try.prog.godebug = none := by kernel_rfl
theorem laidOut : laidOutB Try.prog = true := by kernel_rfl

theorem fitN {x y : Int} (hx : IsI x) (hy : IsI y) : Fit 2 (-(x - y)) := by
  unfold Fit IsI at *
  rw [show S 2 = 340282366920938463463374607431768211456 from rfl]; omega
theorem bd_mul {a b c d : Int} (ha : IsI a) (hb : IsI b) (hc : IsI c) (hd : IsI d) : -340282366920938463463374607431768211456 ≤ (a - b) * (c - d) ∧ (a - b) * (c - d) ≤ 340282366920938463463374607431768211456 := by
  unfold IsI at *
  exact abs_mul_le (x := a - b) (y := c - d) (a := 18446744073709551616) (b := 18446744073709551616) ⟨by omega, by omega⟩ ⟨by omega, by omega⟩
theorem fit4s {x y : Int} (hx : -340282366920938463463374607431768211456 ≤ x ∧ x ≤ 340282366920938463463374607431768211456) (hy : -340282366920938463463374607431768211456 ≤ y ∧ y ≤ 340282366920938463463374607431768211456) : Fit 4 (x - y) ∧ Fit 4 (x + y) := by
  unfold Fit
  rw [show S 4 = 115792089237316195423570985008687907853269984665640564039457584007913129639936 from rfl]; omega
theorem nm_neg {w : World} {A : Option Addr} {n c : Nat} {x : Int} (h : Nm w A n c x) : Nm w A n c (-x) := by unfold Nm at *; rw [Int.natAbs_neg]; exact h
theorem sg0 {x : Int} (h : x = 0) : sg x = 0 := by rw [h]; rfl
set_option maxHeartbeats 4000000 in
theorem walk {w : World} (a0_0 a0_1 a0_2 a0_3 : Int) (w0_0 : (Lit.int .i64 a0_0).wf = true) (w0_1 : (Lit.int .i64 a0_1).wf = true) (w0_2 : (Lit.int .i64 a0_2).wf = true) (w0_3 : (Lit.int .i64 a0_3).wf = true) (a1_0 a1_1 a1_2 a1_3 : Int) (w1_0 : (Lit.int .i64 a1_0).wf = true) (w1_1 : (Lit.int .i64 a1_1).wf = true) (w1_2 : (Lit.int .i64 a1_2).wf = true) (w1_3 : (Lit.int .i64 a1_3).wf = true)  :
    Calls Try.prog 8 #[.agg #[.int .i64 a0_0, .int .i64 a0_1, .int .i64 a0_2, .int .i64 a0_3], .agg #[.int .i64 a1_0, .int .i64 a1_1, .int .i64 a1_2, .int .i64 a1_3]] w fun e w' => e = .returned (.bool true) ∧ Below w.heap.size w w' := by
  have HB0 := Lib.hid (Below.refl w.heap.size w)
  have i0_0 := isI_of_wf w0_0
  have i0_1 := isI_of_wf w0_1
  have i0_2 := isI_of_wf w0_2
  have i0_3 := isI_of_wf w0_3
  have i1_0 := isI_of_wf w1_0
  have i1_1 := isI_of_wf w1_1
  have i1_2 := isI_of_wf w1_2
  have i1_3 := isI_of_wf w1_3
  have hfd : ∀ (s : Int) (V : Option Addr) (k c : Nat) (w : World), (Instr.field 30 (.agg #[.int .i64 s, .slice V k c]) 0).run Try.prog w = .ok (.int .i64 s) w := fun _ _ _ _ _ => by kernel_rfl
  have HZ := Lib.hid (sg0 (show (a0_2 - a0_0) * (a1_3 - a0_1) - (a0_3 - a0_1) * (a1_2 - a0_0) + ((a1_0 - a0_2) * (a1_3 - a0_1) - (a1_1 - a0_3) * (a1_2 - a0_0)) - ((a1_0 - a0_0) * (a1_3 - a0_1) - (a1_1 - a0_1) * (a1_2 - a0_0)) = 0 from by grind))
  go_enter Try.func8, Try.ntmps8
  go_wp2_with fail
  have B : Below w.heap.size w ((w.alloc (.cells #[.int .i64 a0_0, .int .i64 a0_1, .int .i64 a0_2, .int .i64 a0_3] 52)).alloc (.cells #[.int .i64 a1_0, .int .i64 a1_1, .int .i64 a1_2, .int .i64 a1_3] 52)) := ((HB0.out.alloc HB0.out.size _).alloc (HB0.out.alloc HB0.out.size _).size _)
  have C : Below w.heap.size w ((w.alloc (.cells #[.int .i64 a0_0, .int .i64 a0_1, .int .i64 a0_2, .int .i64 a0_3] 52)).alloc (.cells #[.int .i64 a1_0, .int .i64 a1_1, .int .i64 a1_2, .int .i64 a1_3] 52)) := (((Below.refl w.heap.size w).alloc (Nat.le_refl _) _).alloc (by simp; try omega) _)
  have X0 : Bx ((w.alloc (.cells #[.int .i64 a0_0, .int .i64 a0_1, .int .i64 a0_2, .int .i64 a0_3] 52)).alloc (.cells #[.int .i64 a1_0, .int .i64 a1_1, .int .i64 a1_2, .int .i64 a1_3] 52)) (w.heap.size) #[.int .i64 a0_0, .int .i64 a0_1, .int .i64 a0_2, .int .i64 a0_3] 52 := by simpa using ((Bx.new w #[.int .i64 a0_0, .int .i64 a0_1, .int .i64 a0_2, .int .i64 a0_3] 52).alloc _)
  have X1 : Bx ((w.alloc (.cells #[.int .i64 a0_0, .int .i64 a0_1, .int .i64 a0_2, .int .i64 a0_3] 52)).alloc (.cells #[.int .i64 a1_0, .int .i64 a1_1, .int .i64 a1_2, .int .i64 a1_3] 52)) (w.heap.size + 1) #[.int .i64 a1_0, .int .i64 a1_1, .int .i64 a1_2, .int .i64 a1_3] 52 := by simpa using (Bx.new (w.alloc (.cells #[.int .i64 a0_0, .int .i64 a0_1, .int .i64 a0_2, .int .i64 a0_3] 52)) #[.int .i64 a1_0, .int .i64 a1_1, .int .i64 a1_2, .int .i64 a1_3] 52)
  have HB1 := Lib.hid B
  have FP_1 := Lib.hid X0
  have FQ_1 := Lib.hid X1
  clear B C X0 X1 HB0 
  generalize ((w.alloc (.cells #[.int .i64 a0_0, .int .i64 a0_1, .int .i64 a0_2, .int .i64 a0_3] 52)).alloc (.cells #[.int .i64 a1_0, .int .i64 a1_1, .int .i64 a1_2, .int .i64 a1_3] 52)) = w1 at *
  have RB1 := Lib.hid (below_drew0 w1)
  refine wp_region_held_drew (S := fun _ => True) (by kernel_rfl) trivial (fun _ => ?_)
  refine wpAnyH_gen [(⟨8, 12, 5, 23, #[.int .i64 0, .int .i64 0], []⟩, fun cs _ => cs = #[.int .i64 a0_0, .int .i64 a0_1]), (⟨9, 13, 6, 23, #[.int .i64 0, .int .i64 0], []⟩, fun cs _ => cs = #[.int .i64 a0_2, .int .i64 a0_3]), (⟨10, 14, 7, 23, #[.int .i64 0, .int .i64 0], []⟩, fun cs _ => cs = #[.int .i64 a1_0, .int .i64 a1_1]), (⟨11, 15, 8, 23, #[.int .i64 0, .int .i64 0], []⟩, fun cs _ => cs = #[.int .i64 a1_2, .int .i64 a1_3])] [⟨0, 17, fun x _ => x = .pointer (some ⟨w.heap.size, 0, none⟩)⟩, ⟨1, 18, fun x _ => x = .agg #[.int .i64 a0_0, .int .i64 a0_1]⟩, ⟨2, 19, fun x _ => x = .pointer (some ⟨w.heap.size, 2, none⟩)⟩, ⟨3, 20, fun x _ => x = .agg #[.int .i64 a0_2, .int .i64 a0_3]⟩, ⟨4, 21, fun x _ => x = .pointer (some ⟨w.heap.size + 1, 0, none⟩)⟩, ⟨5, 22, fun x _ => x = .agg #[.int .i64 a1_0, .int .i64 a1_1]⟩, ⟨6, 23, fun x _ => x = .pointer (some ⟨w.heap.size + 1, 2, none⟩)⟩, ⟨7, 24, fun x _ => x = .agg #[.int .i64 a1_2, .int .i64 a1_3]⟩] (by kernel_rfl) (by kernel_rfl) (fun _ => trivial) ?_ ?_ ?_ ?_ ?_ ?_
  · refine ⟨?_, ?_, ?_, ?_, trivial⟩
    all_goals exact ⟨fun cs => by (dsimp only; repeat (first | exact Stay.const _ | exact Stay.sl _ _ _ _ | exact Stay.nm _ _ _ _ | exact Stay.bx _ _ _ _ | refine Stay.ex fun _ => ?_ | refine Stay.and ?_ ?_)), by dsimp only; decide, by simp [NoU]⟩
  · refine ⟨?_, ?_, ?_, ?_, ?_, ?_, ?_, ?_, trivial⟩
    all_goals (intro x; (dsimp only; repeat (first | exact Stay.const _ | exact Stay.sl _ _ _ _ | exact Stay.nm _ _ _ _ | exact Stay.bx _ _ _ _ | refine Stay.ex fun _ => ?_ | refine Stay.and ?_ ?_)))
  · refine ⟨?_, ?_, ?_, ?_, trivial⟩
    all_goals (intro a w K h; refine wpOp_step (by simp only [List.getElem?_toArray, List.getElem?_cons_succ, List.getElem?_cons_zero]; rfl) (fun K' hK => ?_); go_simp; exact hK _ _ h)
  · refine ⟨?_, ?_, ?_, ?_, trivial⟩
    · intro a w B K ht hd hs hb hK
      obtain ⟨x18, hx18, hp18⟩ := hd 1 _ rfl (by kernel_rfl)
      obtain rfl := hp18
      have es18 : a.tmps.getD 18 undef = _ := getD_of hx18; clear hx18
      clear ht hd
      have c0 := hb.cell 0 (v := .int .i64 0) rfl; have z0 := hb.free 0
      have c1 := hb.cell 1 (v := .int .i64 0) rfl; have z1 := hb.free 1
      have HK := Lib.hid (hK [.int .i64 a0_0, .int .i64 a0_1] rfl (by simp [NoU]) rfl); clear hK hb
      simp only [ptrTo] at hs
      have esB : a.tmps.getD 5 undef = _ := getD_of hs; clear hs
      refine wpOp_step (by simp only [List.getElem?_toArray, List.getElem?_cons_succ, List.getElem?_cons_zero]; rfl) (fun K' hK' => ?_)
      go_simp
      exact hK' _ _ HK.out
    · intro a w B K ht hd hs hb hK
      obtain ⟨x20, hx20, hp20⟩ := hd 3 _ rfl (by kernel_rfl)
      obtain rfl := hp20
      have es20 : a.tmps.getD 20 undef = _ := getD_of hx20; clear hx20
      clear ht hd
      have c0 := hb.cell 0 (v := .int .i64 0) rfl; have z0 := hb.free 0
      have c1 := hb.cell 1 (v := .int .i64 0) rfl; have z1 := hb.free 1
      have HK := Lib.hid (hK [.int .i64 a0_2, .int .i64 a0_3] rfl (by simp [NoU]) rfl); clear hK hb
      simp only [ptrTo] at hs
      have esB : a.tmps.getD 6 undef = _ := getD_of hs; clear hs
      refine wpOp_step (by simp only [List.getElem?_toArray, List.getElem?_cons_succ, List.getElem?_cons_zero]; rfl) (fun K' hK' => ?_)
      go_simp
      exact hK' _ _ HK.out
    · intro a w B K ht hd hs hb hK
      obtain ⟨x22, hx22, hp22⟩ := hd 5 _ rfl (by kernel_rfl)
      obtain rfl := hp22
      have es22 : a.tmps.getD 22 undef = _ := getD_of hx22; clear hx22
      clear ht hd
      have c0 := hb.cell 0 (v := .int .i64 0) rfl; have z0 := hb.free 0
      have c1 := hb.cell 1 (v := .int .i64 0) rfl; have z1 := hb.free 1
      have HK := Lib.hid (hK [.int .i64 a1_0, .int .i64 a1_1] rfl (by simp [NoU]) rfl); clear hK hb
      simp only [ptrTo] at hs
      have esB : a.tmps.getD 7 undef = _ := getD_of hs; clear hs
      refine wpOp_step (by simp only [List.getElem?_toArray, List.getElem?_cons_succ, List.getElem?_cons_zero]; rfl) (fun K' hK' => ?_)
      go_simp
      exact hK' _ _ HK.out
    · intro a w B K ht hd hs hb hK
      obtain ⟨x24, hx24, hp24⟩ := hd 7 _ rfl (by kernel_rfl)
      obtain rfl := hp24
      have es24 : a.tmps.getD 24 undef = _ := getD_of hx24; clear hx24
      clear ht hd
      have c0 := hb.cell 0 (v := .int .i64 0) rfl; have z0 := hb.free 0
      have c1 := hb.cell 1 (v := .int .i64 0) rfl; have z1 := hb.free 1
      have HK := Lib.hid (hK [.int .i64 a1_2, .int .i64 a1_3] rfl (by simp [NoU]) rfl); clear hK hb
      simp only [ptrTo] at hs
      have esB : a.tmps.getD 8 undef = _ := getD_of hs; clear hs
      refine wpOp_step (by simp only [List.getElem?_toArray, List.getElem?_cons_succ, List.getElem?_cons_zero]; rfl) (fun K' hK' => ?_)
      go_simp
      exact hK' _ _ HK.out
  · refine ⟨?_, ?_, ?_, ?_, ?_, ?_, ?_, ?_, trivial⟩
    · intro a w K hb ht hd hK
      have hbw := Lib.hid (below_tr RB1.out hb); clear hb
      have hx2 := (ht 2 rfl).trans rfl
      have es2 : a.tmps.getD 2 undef = _ := getD_of hx2; clear hx2
      clear ht hd
      have HK := Lib.hid hK; clear hK
      refine wpOp_step (by simp only [List.getElem?_toArray, List.getElem?_cons_succ, List.getElem?_cons_zero]; rfl) (fun K' hK' => ?_)
      have HK' := Lib.hid hK'; clear hK'
      go_simp
      exact HK'.out _ _ (HK.out _ _ below_rf rfl)
    · intro a w K hb ht hd hK
      have hbw := Lib.hid (below_tr RB1.out hb); clear hb
      obtain ⟨x17, hx17, hp17⟩ := hd 0 _ rfl (by kernel_rfl)
      obtain rfl := hp17
      have es17 : a.tmps.getD 17 undef = _ := getD_of hx17; clear hx17
      clear ht hd
      have c0 := (FP_1.out.below hbw.out (Nat.le_refl _)).cell 0 (v := .int .i64 a0_0) rfl
      have c1 := (FP_1.out.below hbw.out (Nat.le_refl _)).cell 1 (v := .int .i64 a0_1) rfl
      have HK := Lib.hid hK; clear hK
      refine wpOp_step (by simp only [List.getElem?_toArray, List.getElem?_cons_succ, List.getElem?_cons_zero]; rfl) (fun K' hK' => ?_)
      have HK' := Lib.hid hK'; clear hK'
      go_simp
      exact HK'.out _ _ (HK.out _ _ below_rf rfl)
    · intro a w K hb ht hd hK
      have hbw := Lib.hid (below_tr RB1.out hb); clear hb
      have hx2 := (ht 2 rfl).trans rfl
      have es2 : a.tmps.getD 2 undef = _ := getD_of hx2; clear hx2
      clear ht hd
      have HK := Lib.hid hK; clear hK
      refine wpOp_step (by simp only [List.getElem?_toArray, List.getElem?_cons_succ, List.getElem?_cons_zero]; rfl) (fun K' hK' => ?_)
      have HK' := Lib.hid hK'; clear hK'
      go_simp
      exact HK'.out _ _ (HK.out _ _ below_rf rfl)
    · intro a w K hb ht hd hK
      have hbw := Lib.hid (below_tr RB1.out hb); clear hb
      obtain ⟨x19, hx19, hp19⟩ := hd 2 _ rfl (by kernel_rfl)
      obtain rfl := hp19
      have es19 : a.tmps.getD 19 undef = _ := getD_of hx19; clear hx19
      clear ht hd
      have c0 := (FP_1.out.below hbw.out (Nat.le_refl _)).cell 2 (v := .int .i64 a0_2) rfl
      have c1 := (FP_1.out.below hbw.out (Nat.le_refl _)).cell 3 (v := .int .i64 a0_3) rfl
      have HK := Lib.hid hK; clear hK
      refine wpOp_step (by simp only [List.getElem?_toArray, List.getElem?_cons_succ, List.getElem?_cons_zero]; rfl) (fun K' hK' => ?_)
      have HK' := Lib.hid hK'; clear hK'
      go_simp
      exact HK'.out _ _ (HK.out _ _ below_rf rfl)
    · intro a w K hb ht hd hK
      have hbw := Lib.hid (below_tr RB1.out hb); clear hb
      have hx3 := (ht 3 rfl).trans rfl
      have es3 : a.tmps.getD 3 undef = _ := getD_of hx3; clear hx3
      clear ht hd
      have HK := Lib.hid hK; clear hK
      refine wpOp_step (by simp only [List.getElem?_toArray, List.getElem?_cons_succ, List.getElem?_cons_zero]; rfl) (fun K' hK' => ?_)
      have HK' := Lib.hid hK'; clear hK'
      go_simp
      exact HK'.out _ _ (HK.out _ _ below_rf rfl)
    · intro a w K hb ht hd hK
      have hbw := Lib.hid (below_tr RB1.out hb); clear hb
      obtain ⟨x21, hx21, hp21⟩ := hd 4 _ rfl (by kernel_rfl)
      obtain rfl := hp21
      have es21 : a.tmps.getD 21 undef = _ := getD_of hx21; clear hx21
      clear ht hd
      have c0 := (FQ_1.out.below hbw.out (Nat.le_refl _)).cell 0 (v := .int .i64 a1_0) rfl
      have c1 := (FQ_1.out.below hbw.out (Nat.le_refl _)).cell 1 (v := .int .i64 a1_1) rfl
      have HK := Lib.hid hK; clear hK
      refine wpOp_step (by simp only [List.getElem?_toArray, List.getElem?_cons_succ, List.getElem?_cons_zero]; rfl) (fun K' hK' => ?_)
      have HK' := Lib.hid hK'; clear hK'
      go_simp
      exact HK'.out _ _ (HK.out _ _ below_rf rfl)
    · intro a w K hb ht hd hK
      have hbw := Lib.hid (below_tr RB1.out hb); clear hb
      have hx3 := (ht 3 rfl).trans rfl
      have es3 : a.tmps.getD 3 undef = _ := getD_of hx3; clear hx3
      clear ht hd
      have HK := Lib.hid hK; clear hK
      refine wpOp_step (by simp only [List.getElem?_toArray, List.getElem?_cons_succ, List.getElem?_cons_zero]; rfl) (fun K' hK' => ?_)
      have HK' := Lib.hid hK'; clear hK'
      go_simp
      exact HK'.out _ _ (HK.out _ _ below_rf rfl)
    · intro a w K hb ht hd hK
      have hbw := Lib.hid (below_tr RB1.out hb); clear hb
      obtain ⟨x23, hx23, hp23⟩ := hd 6 _ rfl (by kernel_rfl)
      obtain rfl := hp23
      have es23 : a.tmps.getD 23 undef = _ := getD_of hx23; clear hx23
      clear ht hd
      have c0 := (FQ_1.out.below hbw.out (Nat.le_refl _)).cell 2 (v := .int .i64 a1_2) rfl
      have c1 := (FQ_1.out.below hbw.out (Nat.le_refl _)).cell 3 (v := .int .i64 a1_3) rfl
      have HK := Lib.hid hK; clear hK
      refine wpOp_step (by simp only [List.getElem?_toArray, List.getElem?_cons_succ, List.getElem?_cons_zero]; rfl) (fun K' hK' => ?_)
      have HK' := Lib.hid hK'; clear hK'
      go_simp
      exact HK'.out _ _ (HK.out _ _ below_rf rfl)
  · intro w2 X B hb hv hx hd
    simp only [List.foldl_cons, List.foldl_nil, Act.put, List.setIfInBounds_toArray, List.set_cons_zero, List.set_cons_succ, ptrTo]
    obtain ⟨hv0, hv1, hv2, hv3, hv4, hv5, hv6, hv7, -⟩ := hv
    obtain ⟨⟨hn5, cs5, hx5, hg5⟩, ⟨hn6, cs6, hx6, hg6⟩, ⟨hn7, cs7, hx7, hg7⟩, ⟨hn8, cs8, hx8, hg8⟩, -⟩ := hx
    clear hd
    have hV0 : (fun x _ => x = .pointer (some ⟨w.heap.size, 0, none⟩)) (X 17) w2 := hv0; clear hv0; have hv0 := hV0; clear hV0; generalize X 17 = X17 at *
    have hV1 : (fun x _ => x = .agg #[.int .i64 a0_0, .int .i64 a0_1]) (X 18) w2 := hv1; clear hv1; have hv1 := hV1; clear hV1; generalize X 18 = X18 at *
    have hV2 : (fun x _ => x = .pointer (some ⟨w.heap.size, 2, none⟩)) (X 19) w2 := hv2; clear hv2; have hv2 := hV2; clear hV2; generalize X 19 = X19 at *
    have hV3 : (fun x _ => x = .agg #[.int .i64 a0_2, .int .i64 a0_3]) (X 20) w2 := hv3; clear hv3; have hv3 := hV3; clear hV3; generalize X 20 = X20 at *
    have hV4 : (fun x _ => x = .pointer (some ⟨w.heap.size + 1, 0, none⟩)) (X 21) w2 := hv4; clear hv4; have hv4 := hV4; clear hV4; generalize X 21 = X21 at *
    have hV5 : (fun x _ => x = .agg #[.int .i64 a1_0, .int .i64 a1_1]) (X 22) w2 := hv5; clear hv5; have hv5 := hV5; clear hV5; generalize X 22 = X22 at *
    have hV6 : (fun x _ => x = .pointer (some ⟨w.heap.size + 1, 2, none⟩)) (X 23) w2 := hv6; clear hv6; have hv6 := hV6; clear hV6; generalize X 23 = X23 at *
    have hV7 : (fun x _ => x = .agg #[.int .i64 a1_2, .int .i64 a1_3]) (X 24) w2 := hv7; clear hv7; have hv7 := hV7; clear hV7; generalize X 24 = X24 at *
    have hx5' : Bx w2 (B 5) cs5 23 := hx5; clear hx5; generalize B 5 = b5 at *
    have hx6' : Bx w2 (B 6) cs6 23 := hx6; clear hx6; generalize B 6 = b6 at *
    have hx7' : Bx w2 (B 7) cs7 23 := hx7; clear hx7; generalize B 7 = b7 at *
    have hx8' : Bx w2 (B 8) cs8 23 := hx8; clear hx8; generalize B 8 = b8 at *
    have hn5' : w1.heap.size ≤ b5 := hn5; clear hn5
    have hn6' : w1.heap.size ≤ b6 := hn6; clear hn6
    have hn7' : w1.heap.size ≤ b7 := hn7; clear hn7
    have hn8' : w1.heap.size ≤ b8 := hn8; clear hn8
    obtain rfl := hv0
    obtain rfl := hv1
    obtain rfl := hv2
    obtain rfl := hv3
    obtain rfl := hv4
    obtain rfl := hv5
    obtain rfl := hv6
    obtain rfl := hv7
    obtain rfl := hg5
    obtain rfl := hg6
    obtain rfl := hg7
    obtain rfl := hg8
    have RC := Lib.hid (below_tr RB1.out hb); clear hb
    have FP_2 := Lib.hid (FP_1.out.below RC.out (Nat.le_refl _))
    have FQ_2 := Lib.hid (FQ_1.out.below RC.out (Nat.le_refl _))
    have HB2 := Lib.hid (HB1.out.trans (RC.out.mono HB1.out.size))
    clear HB1 FP_1 FQ_1 RC RB1
    have FX5 := Lib.hid hx5'; clear hx5'
    have FX6 := Lib.hid hx6'; clear hx6'
    have FX7 := Lib.hid hx7'; clear hx7'
    have FX8 := Lib.hid hx8'; clear hx8'
    go_wp2_with fail
    have RB2 := Lib.hid (below_drew0 w2)
    refine wp_region_held_drew (S := fun _ => True) (by kernel_rfl) trivial (fun _ => ?_)
    refine wpAnyH_gen [(⟨12, 16, 9, 26, #[.slice none 0 0, .slice none 0 0], []⟩, fun cs w => ∃ (U : Option Addr) (u : Nat) (V : Option Addr) (v : Nat), cs = #[.slice U 2 u, .slice V 2 v] ∧ Sl w .u64 U 2 u (lmb (a0_2 - a0_0)) ∧ Sl w .u64 V 2 v (lmb (a0_3 - a0_1))), (⟨13, 17, 10, 26, #[.slice none 0 0, .slice none 0 0], []⟩, fun cs w => ∃ (U : Option Addr) (u : Nat) (V : Option Addr) (v : Nat), cs = #[.slice U 2 u, .slice V 2 v] ∧ Sl w .u64 U 2 u (lmb (a1_0 - a0_2)) ∧ Sl w .u64 V 2 v (lmb (a1_1 - a0_3))), (⟨14, 18, 11, 26, #[.slice none 0 0, .slice none 0 0], []⟩, fun cs w => ∃ (U : Option Addr) (u : Nat) (V : Option Addr) (v : Nat), cs = #[.slice U 2 u, .slice V 2 v] ∧ Sl w .u64 U 2 u (lmb (a1_0 - a0_0)) ∧ Sl w .u64 V 2 v (lmb (a1_1 - a0_1))), (⟨15, 19, 12, 26, #[.slice none 0 0, .slice none 0 0], []⟩, fun cs w => ∃ (U : Option Addr) (u : Nat) (V : Option Addr) (v : Nat), cs = #[.slice U 2 u, .slice V 2 v] ∧ Sl w .u64 U 2 u (lmb (a1_2 - a0_0)) ∧ Sl w .u64 V 2 v (lmb (a1_3 - a0_1)))] [⟨0, 25, fun x _ => x = .agg #[.int .i64 a0_0, .int .i64 a0_1]⟩, ⟨1, 26, fun x _ => x = .agg #[.int .i64 a0_2, .int .i64 a0_3]⟩, ⟨2, 27, fun x w => ∃ (U : Option Addr) (u : Nat) (V : Option Addr) (v : Nat), x = .agg #[.slice U 2 u, .slice V 2 v] ∧ Sl w .u64 U 2 u (lmb (a0_2 - a0_0)) ∧ Sl w .u64 V 2 v (lmb (a0_3 - a0_1))⟩, ⟨3, 28, fun x _ => x = .agg #[.int .i64 a0_2, .int .i64 a0_3]⟩, ⟨4, 29, fun x _ => x = .agg #[.int .i64 a1_0, .int .i64 a1_1]⟩, ⟨5, 30, fun x w => ∃ (U : Option Addr) (u : Nat) (V : Option Addr) (v : Nat), x = .agg #[.slice U 2 u, .slice V 2 v] ∧ Sl w .u64 U 2 u (lmb (a1_0 - a0_2)) ∧ Sl w .u64 V 2 v (lmb (a1_1 - a0_3))⟩, ⟨6, 31, fun x _ => x = .agg #[.int .i64 a0_0, .int .i64 a0_1]⟩, ⟨7, 32, fun x _ => x = .agg #[.int .i64 a1_0, .int .i64 a1_1]⟩, ⟨8, 33, fun x w => ∃ (U : Option Addr) (u : Nat) (V : Option Addr) (v : Nat), x = .agg #[.slice U 2 u, .slice V 2 v] ∧ Sl w .u64 U 2 u (lmb (a1_0 - a0_0)) ∧ Sl w .u64 V 2 v (lmb (a1_1 - a0_1))⟩, ⟨9, 34, fun x _ => x = .agg #[.int .i64 a0_0, .int .i64 a0_1]⟩, ⟨10, 35, fun x _ => x = .agg #[.int .i64 a1_2, .int .i64 a1_3]⟩, ⟨11, 36, fun x w => ∃ (U : Option Addr) (u : Nat) (V : Option Addr) (v : Nat), x = .agg #[.slice U 2 u, .slice V 2 v] ∧ Sl w .u64 U 2 u (lmb (a1_2 - a0_0)) ∧ Sl w .u64 V 2 v (lmb (a1_3 - a0_1))⟩] (by kernel_rfl) (by kernel_rfl) (fun _ => trivial) ?_ ?_ ?_ ?_ ?_ ?_
    · refine ⟨?_, ?_, ?_, ?_, trivial⟩
      all_goals exact ⟨fun cs => by (dsimp only; repeat (first | exact Stay.const _ | exact Stay.sl _ _ _ _ | exact Stay.nm _ _ _ _ | exact Stay.bx _ _ _ _ | refine Stay.ex fun _ => ?_ | refine Stay.and ?_ ?_)), by dsimp only; decide, by simp [NoU]⟩
    · refine ⟨?_, ?_, ?_, ?_, ?_, ?_, ?_, ?_, ?_, ?_, ?_, ?_, trivial⟩
      all_goals (intro x; (dsimp only; repeat (first | exact Stay.const _ | exact Stay.sl _ _ _ _ | exact Stay.nm _ _ _ _ | exact Stay.bx _ _ _ _ | refine Stay.ex fun _ => ?_ | refine Stay.and ?_ ?_)))
    · refine ⟨?_, ?_, ?_, ?_, trivial⟩
      all_goals (intro a w K h; refine wpOp_step (by simp only [List.getElem?_toArray, List.getElem?_cons_succ, List.getElem?_cons_zero]; rfl) (fun K' hK => ?_); go_simp; exact hK _ _ h)
    · refine ⟨?_, ?_, ?_, ?_, trivial⟩
      · intro a w B K ht hd hs hb hK
        obtain ⟨x27, hx27, hp27⟩ := hd 2 _ rfl (by kernel_rfl)
        obtain ⟨U2, u2, V2, v2, rfl, S2, T2⟩ := hp27
        have es27 : a.tmps.getD 27 undef = _ := getD_of hx27; clear hx27
        clear ht hd
        have c0 := hb.cell 0 (v := .slice none 0 0) rfl; have z0 := hb.free 0
        have c1 := hb.cell 1 (v := .slice none 0 0) rfl; have z1 := hb.free 1
        have HK := Lib.hid (hK [.slice U2 2 u2, .slice V2 2 v2] rfl (by simp [NoU]) ⟨U2, u2, V2, v2, rfl, S2, T2⟩); clear hK hb
        simp only [ptrTo] at hs
        have esB : a.tmps.getD 9 undef = _ := getD_of hs; clear hs
        refine wpOp_step (by simp only [List.getElem?_toArray, List.getElem?_cons_succ, List.getElem?_cons_zero]; rfl) (fun K' hK' => ?_)
        go_simp
        exact hK' _ _ HK.out
      · intro a w B K ht hd hs hb hK
        obtain ⟨x30, hx30, hp30⟩ := hd 5 _ rfl (by kernel_rfl)
        obtain ⟨U5, u5, V5, v5, rfl, S5, T5⟩ := hp30
        have es30 : a.tmps.getD 30 undef = _ := getD_of hx30; clear hx30
        clear ht hd
        have c0 := hb.cell 0 (v := .slice none 0 0) rfl; have z0 := hb.free 0
        have c1 := hb.cell 1 (v := .slice none 0 0) rfl; have z1 := hb.free 1
        have HK := Lib.hid (hK [.slice U5 2 u5, .slice V5 2 v5] rfl (by simp [NoU]) ⟨U5, u5, V5, v5, rfl, S5, T5⟩); clear hK hb
        simp only [ptrTo] at hs
        have esB : a.tmps.getD 10 undef = _ := getD_of hs; clear hs
        refine wpOp_step (by simp only [List.getElem?_toArray, List.getElem?_cons_succ, List.getElem?_cons_zero]; rfl) (fun K' hK' => ?_)
        go_simp
        exact hK' _ _ HK.out
      · intro a w B K ht hd hs hb hK
        obtain ⟨x33, hx33, hp33⟩ := hd 8 _ rfl (by kernel_rfl)
        obtain ⟨U8, u8, V8, v8, rfl, S8, T8⟩ := hp33
        have es33 : a.tmps.getD 33 undef = _ := getD_of hx33; clear hx33
        clear ht hd
        have c0 := hb.cell 0 (v := .slice none 0 0) rfl; have z0 := hb.free 0
        have c1 := hb.cell 1 (v := .slice none 0 0) rfl; have z1 := hb.free 1
        have HK := Lib.hid (hK [.slice U8 2 u8, .slice V8 2 v8] rfl (by simp [NoU]) ⟨U8, u8, V8, v8, rfl, S8, T8⟩); clear hK hb
        simp only [ptrTo] at hs
        have esB : a.tmps.getD 11 undef = _ := getD_of hs; clear hs
        refine wpOp_step (by simp only [List.getElem?_toArray, List.getElem?_cons_succ, List.getElem?_cons_zero]; rfl) (fun K' hK' => ?_)
        go_simp
        exact hK' _ _ HK.out
      · intro a w B K ht hd hs hb hK
        obtain ⟨x36, hx36, hp36⟩ := hd 11 _ rfl (by kernel_rfl)
        obtain ⟨U11, u11, V11, v11, rfl, S11, T11⟩ := hp36
        have es36 : a.tmps.getD 36 undef = _ := getD_of hx36; clear hx36
        clear ht hd
        have c0 := hb.cell 0 (v := .slice none 0 0) rfl; have z0 := hb.free 0
        have c1 := hb.cell 1 (v := .slice none 0 0) rfl; have z1 := hb.free 1
        have HK := Lib.hid (hK [.slice U11 2 u11, .slice V11 2 v11] rfl (by simp [NoU]) ⟨U11, u11, V11, v11, rfl, S11, T11⟩); clear hK hb
        simp only [ptrTo] at hs
        have esB : a.tmps.getD 12 undef = _ := getD_of hs; clear hs
        refine wpOp_step (by simp only [List.getElem?_toArray, List.getElem?_cons_succ, List.getElem?_cons_zero]; rfl) (fun K' hK' => ?_)
        go_simp
        exact hK' _ _ HK.out
    · refine ⟨?_, ?_, ?_, ?_, ?_, ?_, ?_, ?_, ?_, ?_, ?_, ?_, trivial⟩
      · intro a w K hb ht hd hK
        have hbw := Lib.hid (below_tr RB2.out hb); clear hb
        have hx5 := (ht 5 rfl).trans rfl
        have es5 : a.tmps.getD 5 undef = _ := getD_of hx5; clear hx5
        clear ht hd
        have c0 := (FX5.out.below hbw.out (Nat.le_refl _)).cell 0 (v := .int .i64 a0_0) rfl
        have c1 := (FX5.out.below hbw.out (Nat.le_refl _)).cell 1 (v := .int .i64 a0_1) rfl
        have HK := Lib.hid hK; clear hK
        refine wpOp_step (by simp only [List.getElem?_toArray, List.getElem?_cons_succ, List.getElem?_cons_zero]; rfl) (fun K' hK' => ?_)
        have HK' := Lib.hid hK'; clear hK'
        go_simp
        exact HK'.out _ _ (HK.out _ _ below_rf rfl)
      · intro a w K hb ht hd hK
        have hbw := Lib.hid (below_tr RB2.out hb); clear hb
        have hx6 := (ht 6 rfl).trans rfl
        have es6 : a.tmps.getD 6 undef = _ := getD_of hx6; clear hx6
        clear ht hd
        have c0 := (FX6.out.below hbw.out (Nat.le_refl _)).cell 0 (v := .int .i64 a0_2) rfl
        have c1 := (FX6.out.below hbw.out (Nat.le_refl _)).cell 1 (v := .int .i64 a0_3) rfl
        have HK := Lib.hid hK; clear hK
        refine wpOp_step (by simp only [List.getElem?_toArray, List.getElem?_cons_succ, List.getElem?_cons_zero]; rfl) (fun K' hK' => ?_)
        have HK' := Lib.hid hK'; clear hK'
        go_simp
        exact HK'.out _ _ (HK.out _ _ below_rf rfl)
      · intro a w K hb ht hd hK
        have hbw := Lib.hid (below_tr RB2.out hb); clear hb
        obtain ⟨x25, hx25, hp25⟩ := hd 0 _ rfl (by kernel_rfl)
        obtain rfl := hp25
        have es25 : a.tmps.getD 25 undef = _ := getD_of hx25; clear hx25
        obtain ⟨x26, hx26, hp26⟩ := hd 1 _ rfl (by kernel_rfl)
        obtain rfl := hp26
        have es26 : a.tmps.getD 26 undef = _ := getD_of hx26; clear hx26
        clear ht hd
        have HK := Lib.hid hK; clear hK
        refine wpOp_step (by simp only [List.getElem?_toArray, List.getElem?_cons_succ, List.getElem?_cons_zero]; rfl) (fun K' hK' => ?_)
        have HK' := Lib.hid hK'; clear hK'
        go_simp
        refine (diff_Between a0_0 a0_1 a0_2 a0_3 i0_0 i0_1 i0_2 i0_3 _).mono ?_
        rintro e w1 ⟨⟨U, u, V, v, rfl, S, T⟩, B⟩
        go_wp2_with fail
        exact HK'.out _ _ (HK.out _ _ B ⟨U, u, V, v, rfl, S, T⟩)
      · intro a w K hb ht hd hK
        have hbw := Lib.hid (below_tr RB2.out hb); clear hb
        have hx6 := (ht 6 rfl).trans rfl
        have es6 : a.tmps.getD 6 undef = _ := getD_of hx6; clear hx6
        clear ht hd
        have c0 := (FX6.out.below hbw.out (Nat.le_refl _)).cell 0 (v := .int .i64 a0_2) rfl
        have c1 := (FX6.out.below hbw.out (Nat.le_refl _)).cell 1 (v := .int .i64 a0_3) rfl
        have HK := Lib.hid hK; clear hK
        refine wpOp_step (by simp only [List.getElem?_toArray, List.getElem?_cons_succ, List.getElem?_cons_zero]; rfl) (fun K' hK' => ?_)
        have HK' := Lib.hid hK'; clear hK'
        go_simp
        exact HK'.out _ _ (HK.out _ _ below_rf rfl)
      · intro a w K hb ht hd hK
        have hbw := Lib.hid (below_tr RB2.out hb); clear hb
        have hx7 := (ht 7 rfl).trans rfl
        have es7 : a.tmps.getD 7 undef = _ := getD_of hx7; clear hx7
        clear ht hd
        have c0 := (FX7.out.below hbw.out (Nat.le_refl _)).cell 0 (v := .int .i64 a1_0) rfl
        have c1 := (FX7.out.below hbw.out (Nat.le_refl _)).cell 1 (v := .int .i64 a1_1) rfl
        have HK := Lib.hid hK; clear hK
        refine wpOp_step (by simp only [List.getElem?_toArray, List.getElem?_cons_succ, List.getElem?_cons_zero]; rfl) (fun K' hK' => ?_)
        have HK' := Lib.hid hK'; clear hK'
        go_simp
        exact HK'.out _ _ (HK.out _ _ below_rf rfl)
      · intro a w K hb ht hd hK
        have hbw := Lib.hid (below_tr RB2.out hb); clear hb
        obtain ⟨x28, hx28, hp28⟩ := hd 3 _ rfl (by kernel_rfl)
        obtain rfl := hp28
        have es28 : a.tmps.getD 28 undef = _ := getD_of hx28; clear hx28
        obtain ⟨x29, hx29, hp29⟩ := hd 4 _ rfl (by kernel_rfl)
        obtain rfl := hp29
        have es29 : a.tmps.getD 29 undef = _ := getD_of hx29; clear hx29
        clear ht hd
        have HK := Lib.hid hK; clear hK
        refine wpOp_step (by simp only [List.getElem?_toArray, List.getElem?_cons_succ, List.getElem?_cons_zero]; rfl) (fun K' hK' => ?_)
        have HK' := Lib.hid hK'; clear hK'
        go_simp
        refine (diff_Between a0_2 a0_3 a1_0 a1_1 i0_2 i0_3 i1_0 i1_1 _).mono ?_
        rintro e w1 ⟨⟨U, u, V, v, rfl, S, T⟩, B⟩
        go_wp2_with fail
        exact HK'.out _ _ (HK.out _ _ B ⟨U, u, V, v, rfl, S, T⟩)
      · intro a w K hb ht hd hK
        have hbw := Lib.hid (below_tr RB2.out hb); clear hb
        have hx5 := (ht 5 rfl).trans rfl
        have es5 : a.tmps.getD 5 undef = _ := getD_of hx5; clear hx5
        clear ht hd
        have c0 := (FX5.out.below hbw.out (Nat.le_refl _)).cell 0 (v := .int .i64 a0_0) rfl
        have c1 := (FX5.out.below hbw.out (Nat.le_refl _)).cell 1 (v := .int .i64 a0_1) rfl
        have HK := Lib.hid hK; clear hK
        refine wpOp_step (by simp only [List.getElem?_toArray, List.getElem?_cons_succ, List.getElem?_cons_zero]; rfl) (fun K' hK' => ?_)
        have HK' := Lib.hid hK'; clear hK'
        go_simp
        exact HK'.out _ _ (HK.out _ _ below_rf rfl)
      · intro a w K hb ht hd hK
        have hbw := Lib.hid (below_tr RB2.out hb); clear hb
        have hx7 := (ht 7 rfl).trans rfl
        have es7 : a.tmps.getD 7 undef = _ := getD_of hx7; clear hx7
        clear ht hd
        have c0 := (FX7.out.below hbw.out (Nat.le_refl _)).cell 0 (v := .int .i64 a1_0) rfl
        have c1 := (FX7.out.below hbw.out (Nat.le_refl _)).cell 1 (v := .int .i64 a1_1) rfl
        have HK := Lib.hid hK; clear hK
        refine wpOp_step (by simp only [List.getElem?_toArray, List.getElem?_cons_succ, List.getElem?_cons_zero]; rfl) (fun K' hK' => ?_)
        have HK' := Lib.hid hK'; clear hK'
        go_simp
        exact HK'.out _ _ (HK.out _ _ below_rf rfl)
      · intro a w K hb ht hd hK
        have hbw := Lib.hid (below_tr RB2.out hb); clear hb
        obtain ⟨x31, hx31, hp31⟩ := hd 6 _ rfl (by kernel_rfl)
        obtain rfl := hp31
        have es31 : a.tmps.getD 31 undef = _ := getD_of hx31; clear hx31
        obtain ⟨x32, hx32, hp32⟩ := hd 7 _ rfl (by kernel_rfl)
        obtain rfl := hp32
        have es32 : a.tmps.getD 32 undef = _ := getD_of hx32; clear hx32
        clear ht hd
        have HK := Lib.hid hK; clear hK
        refine wpOp_step (by simp only [List.getElem?_toArray, List.getElem?_cons_succ, List.getElem?_cons_zero]; rfl) (fun K' hK' => ?_)
        have HK' := Lib.hid hK'; clear hK'
        go_simp
        refine (diff_Between a0_0 a0_1 a1_0 a1_1 i0_0 i0_1 i1_0 i1_1 _).mono ?_
        rintro e w1 ⟨⟨U, u, V, v, rfl, S, T⟩, B⟩
        go_wp2_with fail
        exact HK'.out _ _ (HK.out _ _ B ⟨U, u, V, v, rfl, S, T⟩)
      · intro a w K hb ht hd hK
        have hbw := Lib.hid (below_tr RB2.out hb); clear hb
        have hx5 := (ht 5 rfl).trans rfl
        have es5 : a.tmps.getD 5 undef = _ := getD_of hx5; clear hx5
        clear ht hd
        have c0 := (FX5.out.below hbw.out (Nat.le_refl _)).cell 0 (v := .int .i64 a0_0) rfl
        have c1 := (FX5.out.below hbw.out (Nat.le_refl _)).cell 1 (v := .int .i64 a0_1) rfl
        have HK := Lib.hid hK; clear hK
        refine wpOp_step (by simp only [List.getElem?_toArray, List.getElem?_cons_succ, List.getElem?_cons_zero]; rfl) (fun K' hK' => ?_)
        have HK' := Lib.hid hK'; clear hK'
        go_simp
        exact HK'.out _ _ (HK.out _ _ below_rf rfl)
      · intro a w K hb ht hd hK
        have hbw := Lib.hid (below_tr RB2.out hb); clear hb
        have hx8 := (ht 8 rfl).trans rfl
        have es8 : a.tmps.getD 8 undef = _ := getD_of hx8; clear hx8
        clear ht hd
        have c0 := (FX8.out.below hbw.out (Nat.le_refl _)).cell 0 (v := .int .i64 a1_2) rfl
        have c1 := (FX8.out.below hbw.out (Nat.le_refl _)).cell 1 (v := .int .i64 a1_3) rfl
        have HK := Lib.hid hK; clear hK
        refine wpOp_step (by simp only [List.getElem?_toArray, List.getElem?_cons_succ, List.getElem?_cons_zero]; rfl) (fun K' hK' => ?_)
        have HK' := Lib.hid hK'; clear hK'
        go_simp
        exact HK'.out _ _ (HK.out _ _ below_rf rfl)
      · intro a w K hb ht hd hK
        have hbw := Lib.hid (below_tr RB2.out hb); clear hb
        obtain ⟨x34, hx34, hp34⟩ := hd 9 _ rfl (by kernel_rfl)
        obtain rfl := hp34
        have es34 : a.tmps.getD 34 undef = _ := getD_of hx34; clear hx34
        obtain ⟨x35, hx35, hp35⟩ := hd 10 _ rfl (by kernel_rfl)
        obtain rfl := hp35
        have es35 : a.tmps.getD 35 undef = _ := getD_of hx35; clear hx35
        clear ht hd
        have HK := Lib.hid hK; clear hK
        refine wpOp_step (by simp only [List.getElem?_toArray, List.getElem?_cons_succ, List.getElem?_cons_zero]; rfl) (fun K' hK' => ?_)
        have HK' := Lib.hid hK'; clear hK'
        go_simp
        refine (diff_Between a0_0 a0_1 a1_2 a1_3 i0_0 i0_1 i1_2 i1_3 _).mono ?_
        rintro e w1 ⟨⟨U, u, V, v, rfl, S, T⟩, B⟩
        go_wp2_with fail
        exact HK'.out _ _ (HK.out _ _ B ⟨U, u, V, v, rfl, S, T⟩)
    · intro w3 X B hb hv hx hd
      simp only [List.foldl_cons, List.foldl_nil, Act.put, List.setIfInBounds_toArray, List.set_cons_zero, List.set_cons_succ, ptrTo]
      obtain ⟨hv0, hv1, hv2, hv3, hv4, hv5, hv6, hv7, hv8, hv9, hv10, hv11, -⟩ := hv
      obtain ⟨⟨hn9, cs9, hx9, hg9⟩, ⟨hn10, cs10, hx10, hg10⟩, ⟨hn11, cs11, hx11, hg11⟩, ⟨hn12, cs12, hx12, hg12⟩, -⟩ := hx
      clear hd
      have hV0 : (fun x _ => x = .agg #[.int .i64 a0_0, .int .i64 a0_1]) (X 25) w3 := hv0; clear hv0; have hv0 := hV0; clear hV0; generalize X 25 = X25 at *
      have hV1 : (fun x _ => x = .agg #[.int .i64 a0_2, .int .i64 a0_3]) (X 26) w3 := hv1; clear hv1; have hv1 := hV1; clear hV1; generalize X 26 = X26 at *
      have hV2 : (fun x w => ∃ (U : Option Addr) (u : Nat) (V : Option Addr) (v : Nat), x = .agg #[.slice U 2 u, .slice V 2 v] ∧ Sl w .u64 U 2 u (lmb (a0_2 - a0_0)) ∧ Sl w .u64 V 2 v (lmb (a0_3 - a0_1))) (X 27) w3 := hv2; clear hv2; have hv2 := hV2; clear hV2; generalize X 27 = X27 at *
      have hV3 : (fun x _ => x = .agg #[.int .i64 a0_2, .int .i64 a0_3]) (X 28) w3 := hv3; clear hv3; have hv3 := hV3; clear hV3; generalize X 28 = X28 at *
      have hV4 : (fun x _ => x = .agg #[.int .i64 a1_0, .int .i64 a1_1]) (X 29) w3 := hv4; clear hv4; have hv4 := hV4; clear hV4; generalize X 29 = X29 at *
      have hV5 : (fun x w => ∃ (U : Option Addr) (u : Nat) (V : Option Addr) (v : Nat), x = .agg #[.slice U 2 u, .slice V 2 v] ∧ Sl w .u64 U 2 u (lmb (a1_0 - a0_2)) ∧ Sl w .u64 V 2 v (lmb (a1_1 - a0_3))) (X 30) w3 := hv5; clear hv5; have hv5 := hV5; clear hV5; generalize X 30 = X30 at *
      have hV6 : (fun x _ => x = .agg #[.int .i64 a0_0, .int .i64 a0_1]) (X 31) w3 := hv6; clear hv6; have hv6 := hV6; clear hV6; generalize X 31 = X31 at *
      have hV7 : (fun x _ => x = .agg #[.int .i64 a1_0, .int .i64 a1_1]) (X 32) w3 := hv7; clear hv7; have hv7 := hV7; clear hV7; generalize X 32 = X32 at *
      have hV8 : (fun x w => ∃ (U : Option Addr) (u : Nat) (V : Option Addr) (v : Nat), x = .agg #[.slice U 2 u, .slice V 2 v] ∧ Sl w .u64 U 2 u (lmb (a1_0 - a0_0)) ∧ Sl w .u64 V 2 v (lmb (a1_1 - a0_1))) (X 33) w3 := hv8; clear hv8; have hv8 := hV8; clear hV8; generalize X 33 = X33 at *
      have hV9 : (fun x _ => x = .agg #[.int .i64 a0_0, .int .i64 a0_1]) (X 34) w3 := hv9; clear hv9; have hv9 := hV9; clear hV9; generalize X 34 = X34 at *
      have hV10 : (fun x _ => x = .agg #[.int .i64 a1_2, .int .i64 a1_3]) (X 35) w3 := hv10; clear hv10; have hv10 := hV10; clear hV10; generalize X 35 = X35 at *
      have hV11 : (fun x w => ∃ (U : Option Addr) (u : Nat) (V : Option Addr) (v : Nat), x = .agg #[.slice U 2 u, .slice V 2 v] ∧ Sl w .u64 U 2 u (lmb (a1_2 - a0_0)) ∧ Sl w .u64 V 2 v (lmb (a1_3 - a0_1))) (X 36) w3 := hv11; clear hv11; have hv11 := hV11; clear hV11; generalize X 36 = X36 at *
      have hx9' : Bx w3 (B 9) cs9 26 := hx9; clear hx9; generalize B 9 = b9 at *
      have hx10' : Bx w3 (B 10) cs10 26 := hx10; clear hx10; generalize B 10 = b10 at *
      have hx11' : Bx w3 (B 11) cs11 26 := hx11; clear hx11; generalize B 11 = b11 at *
      have hx12' : Bx w3 (B 12) cs12 26 := hx12; clear hx12; generalize B 12 = b12 at *
      have hn9' : w2.heap.size ≤ b9 := hn9; clear hn9
      have hn10' : w2.heap.size ≤ b10 := hn10; clear hn10
      have hn11' : w2.heap.size ≤ b11 := hn11; clear hn11
      have hn12' : w2.heap.size ≤ b12 := hn12; clear hn12
      obtain rfl := hv0
      obtain rfl := hv1
      clear hv2
      obtain rfl := hv3
      obtain rfl := hv4
      clear hv5
      obtain rfl := hv6
      obtain rfl := hv7
      clear hv8
      obtain rfl := hv9
      obtain rfl := hv10
      clear hv11
      obtain ⟨U9, u9, V9, v9, rfl, S9, T9⟩ := hg9
      obtain ⟨U10, u10, V10, v10, rfl, S10, T10⟩ := hg10
      obtain ⟨U11, u11, V11, v11, rfl, S11, T11⟩ := hg11
      obtain ⟨U12, u12, V12, v12, rfl, S12, T12⟩ := hg12
      have RC := Lib.hid (below_tr RB2.out hb); clear hb
      have FP_3 := Lib.hid (FP_2.out.below RC.out (Nat.le_refl _))
      have FQ_3 := Lib.hid (FQ_2.out.below RC.out (Nat.le_refl _))
      have FX5_3 := Lib.hid (FX5.out.below RC.out (Nat.le_refl _))
      have FX6_3 := Lib.hid (FX6.out.below RC.out (Nat.le_refl _))
      have FX7_3 := Lib.hid (FX7.out.below RC.out (Nat.le_refl _))
      have FX8_3 := Lib.hid (FX8.out.below RC.out (Nat.le_refl _))
      have HB3 := Lib.hid (HB2.out.trans (RC.out.mono HB2.out.size))
      clear HB2 FP_2 FQ_2 FX5 FX6 FX7 FX8 RC RB2
      have FB9 := Lib.hid hx9'; clear hx9'
      have FS9 := Lib.hid S9; clear S9
      have FT9 := Lib.hid T9; clear T9
      have FB10 := Lib.hid hx10'; clear hx10'
      have FS10 := Lib.hid S10; clear S10
      have FT10 := Lib.hid T10; clear T10
      have FB11 := Lib.hid hx11'; clear hx11'
      have FS11 := Lib.hid S11; clear S11
      have FT11 := Lib.hid T11; clear T11
      have FB12 := Lib.hid hx12'; clear hx12'
      have FS12 := Lib.hid S12; clear S12
      have FT12 := Lib.hid T12; clear T12
      go_wp2_with fail
      have RB3 := Lib.hid (below_drew0 w3)
      refine wp_region_held_drew (S := fun _ => True) (by kernel_rfl) trivial (fun _ => ?_)
      refine wpAnyH_gen [] [⟨0, 37, fun x _ => x = .agg #[.slice U9 2 u9, .slice V9 2 v9]⟩, ⟨1, 38, fun x _ => x = .agg #[.slice U12 2 u12, .slice V12 2 v12]⟩, ⟨2, 39, fun x w => ∃ (A : Option Addr) (c : Nat), x = .slice A 4 c ∧ Sl w .u64 A 4 c (lmb ((a0_2 - a0_0) * (a1_3 - a0_1) - (a0_3 - a0_1) * (a1_2 - a0_0)))⟩, ⟨3, 40, fun x _ => x = .agg #[.slice U10 2 u10, .slice V10 2 v10]⟩, ⟨4, 41, fun x _ => x = .agg #[.slice U12 2 u12, .slice V12 2 v12]⟩, ⟨5, 42, fun x w => ∃ (A : Option Addr) (c : Nat), x = .slice A 4 c ∧ Sl w .u64 A 4 c (lmb ((a1_0 - a0_2) * (a1_3 - a0_1) - (a1_1 - a0_3) * (a1_2 - a0_0)))⟩, ⟨6, 43, fun x _ => x = .agg #[.slice U11 2 u11, .slice V11 2 v11]⟩, ⟨7, 44, fun x _ => x = .agg #[.slice U12 2 u12, .slice V12 2 v12]⟩, ⟨8, 45, fun x w => ∃ (A : Option Addr) (c : Nat), x = .slice A 4 c ∧ Sl w .u64 A 4 c (lmb ((a1_0 - a0_0) * (a1_3 - a0_1) - (a1_1 - a0_1) * (a1_2 - a0_0)))⟩, ⟨9, 13, fun x w => ∃ (A : Option Addr) (c : Nat), x = .slice A 4 c ∧ Sl w .u64 A 4 c (lmb ((a0_2 - a0_0) * (a1_3 - a0_1) - (a0_3 - a0_1) * (a1_2 - a0_0)))⟩, ⟨10, 14, fun x w => ∃ (A : Option Addr) (c : Nat), x = .slice A 4 c ∧ Sl w .u64 A 4 c (lmb ((a1_0 - a0_2) * (a1_3 - a0_1) - (a1_1 - a0_3) * (a1_2 - a0_0)))⟩, ⟨11, 15, fun x w => ∃ (A : Option Addr) (c : Nat), x = .slice A 4 c ∧ Sl w .u64 A 4 c (lmb ((a1_0 - a0_0) * (a1_3 - a0_1) - (a1_1 - a0_1) * (a1_2 - a0_0)))⟩] (by kernel_rfl) (by kernel_rfl) (fun _ => trivial) ?_ ?_ ?_ ?_ ?_ ?_
      · exact trivial
      · refine ⟨?_, ?_, ?_, ?_, ?_, ?_, ?_, ?_, ?_, ?_, ?_, ?_, trivial⟩
        all_goals (intro x; (dsimp only; repeat (first | exact Stay.const _ | exact Stay.sl _ _ _ _ | exact Stay.nm _ _ _ _ | exact Stay.bx _ _ _ _ | refine Stay.ex fun _ => ?_ | refine Stay.and ?_ ?_)))
      · exact trivial
      · exact trivial
      · refine ⟨?_, ?_, ?_, ?_, ?_, ?_, ?_, ?_, ?_, ?_, ?_, ?_, trivial⟩
        · intro a w K hb ht hd hK
          have hbw := Lib.hid (below_tr RB3.out hb); clear hb
          have hx9 := (ht 9 rfl).trans rfl
          have es9 : a.tmps.getD 9 undef = _ := getD_of hx9; clear hx9
          clear ht hd
          have c0 := (FB9.out.below hbw.out (Nat.le_refl _)).cell 0 (v := .slice U9 2 u9) rfl
          have c1 := (FB9.out.below hbw.out (Nat.le_refl _)).cell 1 (v := .slice V9 2 v9) rfl
          have HK := Lib.hid hK; clear hK
          refine wpOp_step (by simp only [List.getElem?_toArray, List.getElem?_cons_succ, List.getElem?_cons_zero]; rfl) (fun K' hK' => ?_)
          have HK' := Lib.hid hK'; clear hK'
          go_simp
          exact HK'.out _ _ (HK.out _ _ below_rf rfl)
        · intro a w K hb ht hd hK
          have hbw := Lib.hid (below_tr RB3.out hb); clear hb
          have hx12 := (ht 12 rfl).trans rfl
          have es12 : a.tmps.getD 12 undef = _ := getD_of hx12; clear hx12
          clear ht hd
          have c0 := (FB12.out.below hbw.out (Nat.le_refl _)).cell 0 (v := .slice U12 2 u12) rfl
          have c1 := (FB12.out.below hbw.out (Nat.le_refl _)).cell 1 (v := .slice V12 2 v12) rfl
          have HK := Lib.hid hK; clear hK
          refine wpOp_step (by simp only [List.getElem?_toArray, List.getElem?_cons_succ, List.getElem?_cons_zero]; rfl) (fun K' hK' => ?_)
          have HK' := Lib.hid hK'; clear hK'
          go_simp
          exact HK'.out _ _ (HK.out _ _ below_rf rfl)
        · intro a w K hb ht hd hK
          have hbw := Lib.hid (below_tr RB3.out hb); clear hb
          obtain ⟨x37, hx37, hp37⟩ := hd 0 _ rfl (by kernel_rfl)
          obtain rfl := hp37
          have es37 : a.tmps.getD 37 undef = _ := getD_of hx37; clear hx37
          obtain ⟨x38, hx38, hp38⟩ := hd 1 _ rfl (by kernel_rfl)
          obtain rfl := hp38
          have es38 : a.tmps.getD 38 undef = _ := getD_of hx38; clear hx38
          clear ht hd
          have HK := Lib.hid hK; clear hK
          refine wpOp_step (by simp only [List.getElem?_toArray, List.getElem?_cons_succ, List.getElem?_cons_zero]; rfl) (fun K' hK' => ?_)
          have HK' := Lib.hid hK'; clear hK'
          go_simp
          refine (diff_Cross _ _ _ _ _ _ _ _ _ _ _ _ _ (FS9.out.below hbw.out (Nat.le_refl _)) (FT9.out.below hbw.out (Nat.le_refl _)) (FS12.out.below hbw.out (Nat.le_refl _)) (FT12.out.below hbw.out (Nat.le_refl _)) (fit_sub i0_2 i0_0) (fit_sub i0_3 i0_1) (fit_sub i1_2 i0_0) (fit_sub i1_3 i0_1)).mono ?_
          rintro e w1 ⟨⟨A, c, rfl, S⟩, B⟩
          go_wp2_with fail
          exact HK'.out _ _ (HK.out _ _ B ⟨A, c, rfl, S⟩)
        · intro a w K hb ht hd hK
          have hbw := Lib.hid (below_tr RB3.out hb); clear hb
          have hx10 := (ht 10 rfl).trans rfl
          have es10 : a.tmps.getD 10 undef = _ := getD_of hx10; clear hx10
          clear ht hd
          have c0 := (FB10.out.below hbw.out (Nat.le_refl _)).cell 0 (v := .slice U10 2 u10) rfl
          have c1 := (FB10.out.below hbw.out (Nat.le_refl _)).cell 1 (v := .slice V10 2 v10) rfl
          have HK := Lib.hid hK; clear hK
          refine wpOp_step (by simp only [List.getElem?_toArray, List.getElem?_cons_succ, List.getElem?_cons_zero]; rfl) (fun K' hK' => ?_)
          have HK' := Lib.hid hK'; clear hK'
          go_simp
          exact HK'.out _ _ (HK.out _ _ below_rf rfl)
        · intro a w K hb ht hd hK
          have hbw := Lib.hid (below_tr RB3.out hb); clear hb
          have hx12 := (ht 12 rfl).trans rfl
          have es12 : a.tmps.getD 12 undef = _ := getD_of hx12; clear hx12
          clear ht hd
          have c0 := (FB12.out.below hbw.out (Nat.le_refl _)).cell 0 (v := .slice U12 2 u12) rfl
          have c1 := (FB12.out.below hbw.out (Nat.le_refl _)).cell 1 (v := .slice V12 2 v12) rfl
          have HK := Lib.hid hK; clear hK
          refine wpOp_step (by simp only [List.getElem?_toArray, List.getElem?_cons_succ, List.getElem?_cons_zero]; rfl) (fun K' hK' => ?_)
          have HK' := Lib.hid hK'; clear hK'
          go_simp
          exact HK'.out _ _ (HK.out _ _ below_rf rfl)
        · intro a w K hb ht hd hK
          have hbw := Lib.hid (below_tr RB3.out hb); clear hb
          obtain ⟨x40, hx40, hp40⟩ := hd 3 _ rfl (by kernel_rfl)
          obtain rfl := hp40
          have es40 : a.tmps.getD 40 undef = _ := getD_of hx40; clear hx40
          obtain ⟨x41, hx41, hp41⟩ := hd 4 _ rfl (by kernel_rfl)
          obtain rfl := hp41
          have es41 : a.tmps.getD 41 undef = _ := getD_of hx41; clear hx41
          clear ht hd
          have HK := Lib.hid hK; clear hK
          refine wpOp_step (by simp only [List.getElem?_toArray, List.getElem?_cons_succ, List.getElem?_cons_zero]; rfl) (fun K' hK' => ?_)
          have HK' := Lib.hid hK'; clear hK'
          go_simp
          refine (diff_Cross _ _ _ _ _ _ _ _ _ _ _ _ _ (FS10.out.below hbw.out (Nat.le_refl _)) (FT10.out.below hbw.out (Nat.le_refl _)) (FS12.out.below hbw.out (Nat.le_refl _)) (FT12.out.below hbw.out (Nat.le_refl _)) (fit_sub i1_0 i0_2) (fit_sub i1_1 i0_3) (fit_sub i1_2 i0_0) (fit_sub i1_3 i0_1)).mono ?_
          rintro e w1 ⟨⟨A, c, rfl, S⟩, B⟩
          go_wp2_with fail
          exact HK'.out _ _ (HK.out _ _ B ⟨A, c, rfl, S⟩)
        · intro a w K hb ht hd hK
          have hbw := Lib.hid (below_tr RB3.out hb); clear hb
          have hx11 := (ht 11 rfl).trans rfl
          have es11 : a.tmps.getD 11 undef = _ := getD_of hx11; clear hx11
          clear ht hd
          have c0 := (FB11.out.below hbw.out (Nat.le_refl _)).cell 0 (v := .slice U11 2 u11) rfl
          have c1 := (FB11.out.below hbw.out (Nat.le_refl _)).cell 1 (v := .slice V11 2 v11) rfl
          have HK := Lib.hid hK; clear hK
          refine wpOp_step (by simp only [List.getElem?_toArray, List.getElem?_cons_succ, List.getElem?_cons_zero]; rfl) (fun K' hK' => ?_)
          have HK' := Lib.hid hK'; clear hK'
          go_simp
          exact HK'.out _ _ (HK.out _ _ below_rf rfl)
        · intro a w K hb ht hd hK
          have hbw := Lib.hid (below_tr RB3.out hb); clear hb
          have hx12 := (ht 12 rfl).trans rfl
          have es12 : a.tmps.getD 12 undef = _ := getD_of hx12; clear hx12
          clear ht hd
          have c0 := (FB12.out.below hbw.out (Nat.le_refl _)).cell 0 (v := .slice U12 2 u12) rfl
          have c1 := (FB12.out.below hbw.out (Nat.le_refl _)).cell 1 (v := .slice V12 2 v12) rfl
          have HK := Lib.hid hK; clear hK
          refine wpOp_step (by simp only [List.getElem?_toArray, List.getElem?_cons_succ, List.getElem?_cons_zero]; rfl) (fun K' hK' => ?_)
          have HK' := Lib.hid hK'; clear hK'
          go_simp
          exact HK'.out _ _ (HK.out _ _ below_rf rfl)
        · intro a w K hb ht hd hK
          have hbw := Lib.hid (below_tr RB3.out hb); clear hb
          obtain ⟨x43, hx43, hp43⟩ := hd 6 _ rfl (by kernel_rfl)
          obtain rfl := hp43
          have es43 : a.tmps.getD 43 undef = _ := getD_of hx43; clear hx43
          obtain ⟨x44, hx44, hp44⟩ := hd 7 _ rfl (by kernel_rfl)
          obtain rfl := hp44
          have es44 : a.tmps.getD 44 undef = _ := getD_of hx44; clear hx44
          clear ht hd
          have HK := Lib.hid hK; clear hK
          refine wpOp_step (by simp only [List.getElem?_toArray, List.getElem?_cons_succ, List.getElem?_cons_zero]; rfl) (fun K' hK' => ?_)
          have HK' := Lib.hid hK'; clear hK'
          go_simp
          refine (diff_Cross _ _ _ _ _ _ _ _ _ _ _ _ _ (FS11.out.below hbw.out (Nat.le_refl _)) (FT11.out.below hbw.out (Nat.le_refl _)) (FS12.out.below hbw.out (Nat.le_refl _)) (FT12.out.below hbw.out (Nat.le_refl _)) (fit_sub i1_0 i0_0) (fit_sub i1_1 i0_1) (fit_sub i1_2 i0_0) (fit_sub i1_3 i0_1)).mono ?_
          rintro e w1 ⟨⟨A, c, rfl, S⟩, B⟩
          go_wp2_with fail
          exact HK'.out _ _ (HK.out _ _ B ⟨A, c, rfl, S⟩)
        · intro a w K hb ht hd hK
          have hbw := Lib.hid (below_tr RB3.out hb); clear hb
          obtain ⟨x39, hx39, hp39⟩ := hd 2 _ rfl (by kernel_rfl)
          obtain ⟨A2, c2, rfl, S2⟩ := hp39
          have es39 : a.tmps.getD 39 undef = _ := getD_of hx39; clear hx39
          clear ht hd
          have HK := Lib.hid hK; clear hK
          refine wpOp_step (by simp only [List.getElem?_toArray, List.getElem?_cons_succ, List.getElem?_cons_zero]; rfl) (fun K' hK' => ?_)
          have HK' := Lib.hid hK'; clear hK'
          go_simp
          exact HK'.out _ _ (HK.out _ _ below_rf ⟨A2, c2, rfl, S2⟩)
        · intro a w K hb ht hd hK
          have hbw := Lib.hid (below_tr RB3.out hb); clear hb
          obtain ⟨x42, hx42, hp42⟩ := hd 5 _ rfl (by kernel_rfl)
          obtain ⟨A5, c5, rfl, S5⟩ := hp42
          have es42 : a.tmps.getD 42 undef = _ := getD_of hx42; clear hx42
          clear ht hd
          have HK := Lib.hid hK; clear hK
          refine wpOp_step (by simp only [List.getElem?_toArray, List.getElem?_cons_succ, List.getElem?_cons_zero]; rfl) (fun K' hK' => ?_)
          have HK' := Lib.hid hK'; clear hK'
          go_simp
          exact HK'.out _ _ (HK.out _ _ below_rf ⟨A5, c5, rfl, S5⟩)
        · intro a w K hb ht hd hK
          have hbw := Lib.hid (below_tr RB3.out hb); clear hb
          obtain ⟨x45, hx45, hp45⟩ := hd 8 _ rfl (by kernel_rfl)
          obtain ⟨A8, c8, rfl, S8⟩ := hp45
          have es45 : a.tmps.getD 45 undef = _ := getD_of hx45; clear hx45
          clear ht hd
          have HK := Lib.hid hK; clear hK
          refine wpOp_step (by simp only [List.getElem?_toArray, List.getElem?_cons_succ, List.getElem?_cons_zero]; rfl) (fun K' hK' => ?_)
          have HK' := Lib.hid hK'; clear hK'
          go_simp
          exact HK'.out _ _ (HK.out _ _ below_rf ⟨A8, c8, rfl, S8⟩)
      · intro w4 X B hb hv hx hd
        simp only [List.foldl_cons, List.foldl_nil, Act.put, List.setIfInBounds_toArray, List.set_cons_zero, List.set_cons_succ, ptrTo]
        obtain ⟨hv0, hv1, hv2, hv3, hv4, hv5, hv6, hv7, hv8, hv9, hv10, hv11, -⟩ := hv
        clear hd
        have hV0 : (fun x _ => x = .agg #[.slice U9 2 u9, .slice V9 2 v9]) (X 37) w4 := hv0; clear hv0; have hv0 := hV0; clear hV0; generalize X 37 = X37 at *
        have hV1 : (fun x _ => x = .agg #[.slice U12 2 u12, .slice V12 2 v12]) (X 38) w4 := hv1; clear hv1; have hv1 := hV1; clear hV1; generalize X 38 = X38 at *
        have hV2 : (fun x w => ∃ (A : Option Addr) (c : Nat), x = .slice A 4 c ∧ Sl w .u64 A 4 c (lmb ((a0_2 - a0_0) * (a1_3 - a0_1) - (a0_3 - a0_1) * (a1_2 - a0_0)))) (X 39) w4 := hv2; clear hv2; have hv2 := hV2; clear hV2; generalize X 39 = X39 at *
        have hV3 : (fun x _ => x = .agg #[.slice U10 2 u10, .slice V10 2 v10]) (X 40) w4 := hv3; clear hv3; have hv3 := hV3; clear hV3; generalize X 40 = X40 at *
        have hV4 : (fun x _ => x = .agg #[.slice U12 2 u12, .slice V12 2 v12]) (X 41) w4 := hv4; clear hv4; have hv4 := hV4; clear hV4; generalize X 41 = X41 at *
        have hV5 : (fun x w => ∃ (A : Option Addr) (c : Nat), x = .slice A 4 c ∧ Sl w .u64 A 4 c (lmb ((a1_0 - a0_2) * (a1_3 - a0_1) - (a1_1 - a0_3) * (a1_2 - a0_0)))) (X 42) w4 := hv5; clear hv5; have hv5 := hV5; clear hV5; generalize X 42 = X42 at *
        have hV6 : (fun x _ => x = .agg #[.slice U11 2 u11, .slice V11 2 v11]) (X 43) w4 := hv6; clear hv6; have hv6 := hV6; clear hV6; generalize X 43 = X43 at *
        have hV7 : (fun x _ => x = .agg #[.slice U12 2 u12, .slice V12 2 v12]) (X 44) w4 := hv7; clear hv7; have hv7 := hV7; clear hV7; generalize X 44 = X44 at *
        have hV8 : (fun x w => ∃ (A : Option Addr) (c : Nat), x = .slice A 4 c ∧ Sl w .u64 A 4 c (lmb ((a1_0 - a0_0) * (a1_3 - a0_1) - (a1_1 - a0_1) * (a1_2 - a0_0)))) (X 45) w4 := hv8; clear hv8; have hv8 := hV8; clear hV8; generalize X 45 = X45 at *
        have hV9 : (fun x w => ∃ (A : Option Addr) (c : Nat), x = .slice A 4 c ∧ Sl w .u64 A 4 c (lmb ((a0_2 - a0_0) * (a1_3 - a0_1) - (a0_3 - a0_1) * (a1_2 - a0_0)))) (X 13) w4 := hv9; clear hv9; have hv9 := hV9; clear hV9; generalize X 13 = X13 at *
        have hV10 : (fun x w => ∃ (A : Option Addr) (c : Nat), x = .slice A 4 c ∧ Sl w .u64 A 4 c (lmb ((a1_0 - a0_2) * (a1_3 - a0_1) - (a1_1 - a0_3) * (a1_2 - a0_0)))) (X 14) w4 := hv10; clear hv10; have hv10 := hV10; clear hV10; generalize X 14 = X14 at *
        have hV11 : (fun x w => ∃ (A : Option Addr) (c : Nat), x = .slice A 4 c ∧ Sl w .u64 A 4 c (lmb ((a1_0 - a0_0) * (a1_3 - a0_1) - (a1_1 - a0_1) * (a1_2 - a0_0)))) (X 15) w4 := hv11; clear hv11; have hv11 := hV11; clear hV11; generalize X 15 = X15 at *
        obtain rfl := hv0
        obtain rfl := hv1
        clear hv2
        obtain rfl := hv3
        obtain rfl := hv4
        clear hv5
        obtain rfl := hv6
        obtain rfl := hv7
        clear hv8
        obtain ⟨A109, c109, rfl, S109⟩ := hv9
        obtain ⟨A110, c110, rfl, S110⟩ := hv10
        obtain ⟨A111, c111, rfl, S111⟩ := hv11
        have RC := Lib.hid (below_tr RB3.out hb); clear hb
        have FP_4 := Lib.hid (FP_3.out.below RC.out (Nat.le_refl _))
        have FQ_4 := Lib.hid (FQ_3.out.below RC.out (Nat.le_refl _))
        have FB9_4 := Lib.hid (FB9.out.below RC.out (Nat.le_refl _))
        have FS9_4 := Lib.hid (FS9.out.below RC.out (Nat.le_refl _))
        have FT9_4 := Lib.hid (FT9.out.below RC.out (Nat.le_refl _))
        have FB10_4 := Lib.hid (FB10.out.below RC.out (Nat.le_refl _))
        have FS10_4 := Lib.hid (FS10.out.below RC.out (Nat.le_refl _))
        have FT10_4 := Lib.hid (FT10.out.below RC.out (Nat.le_refl _))
        have FB11_4 := Lib.hid (FB11.out.below RC.out (Nat.le_refl _))
        have FS11_4 := Lib.hid (FS11.out.below RC.out (Nat.le_refl _))
        have FT11_4 := Lib.hid (FT11.out.below RC.out (Nat.le_refl _))
        have FB12_4 := Lib.hid (FB12.out.below RC.out (Nat.le_refl _))
        have FS12_4 := Lib.hid (FS12.out.below RC.out (Nat.le_refl _))
        have FT12_4 := Lib.hid (FT12.out.below RC.out (Nat.le_refl _))
        have HB4 := Lib.hid (HB3.out.trans (RC.out.mono HB3.out.size))
        clear HB3 FP_3 FQ_3 FB9 FS9 FT9 FB10 FS10 FT10 FB11 FS11 FT11 FB12 FS12 FT12 RC RB3
        have FS109 := Lib.hid S109; clear S109
        have FS110 := Lib.hid S110; clear S110
        have FS111 := Lib.hid S111; clear S111
        go_wp2_with fail
        refine (ref3_Value _ _ _ ((a0_2 - a0_0) * (a1_3 - a0_1) - (a0_3 - a0_1) * (a1_2 - a0_0)) _ FS109.out (fit4s (bd_mul i0_2 i0_0 i1_3 i0_1) (bd_mul i0_3 i0_1 i1_2 i0_0)).1 (by omega)).mono ?_
        rintro e w5 ⟨⟨A17, n17, c17, rfl, b17, N17⟩, B⟩
        have HB5 := Lib.hid (HB4.out.trans (B.mono HB4.out.size))
        have FP_5 := Lib.hid (FP_4.out.below B (Nat.le_refl _))
        have FQ_5 := Lib.hid (FQ_4.out.below B (Nat.le_refl _))
        have FB9_5 := Lib.hid (FB9_4.out.below B (Nat.le_refl _))
        have FS9_5 := Lib.hid (FS9_4.out.below B (Nat.le_refl _))
        have FT9_5 := Lib.hid (FT9_4.out.below B (Nat.le_refl _))
        have FB10_5 := Lib.hid (FB10_4.out.below B (Nat.le_refl _))
        have FS10_5 := Lib.hid (FS10_4.out.below B (Nat.le_refl _))
        have FT10_5 := Lib.hid (FT10_4.out.below B (Nat.le_refl _))
        have FB11_5 := Lib.hid (FB11_4.out.below B (Nat.le_refl _))
        have FS11_5 := Lib.hid (FS11_4.out.below B (Nat.le_refl _))
        have FT11_5 := Lib.hid (FT11_4.out.below B (Nat.le_refl _))
        have FB12_5 := Lib.hid (FB12_4.out.below B (Nat.le_refl _))
        have FS12_5 := Lib.hid (FS12_4.out.below B (Nat.le_refl _))
        have FT12_5 := Lib.hid (FT12_4.out.below B (Nat.le_refl _))
        have FS109_5 := Lib.hid (FS109.out.below B (Nat.le_refl _))
        have FS110_5 := Lib.hid (FS110.out.below B (Nat.le_refl _))
        have FS111_5 := Lib.hid (FS111.out.below B (Nat.le_refl _))
        have FS17_5 := Lib.hid N17
        clear B N17 HB4 FP_4 FQ_4 FB9_4 FS9_4 FT9_4 FB10_4 FS10_4 FT10_4 FB11_4 FS11_4 FT11_4 FB12_4 FS12_4 FT12_4 FS109 FS110 FS111
        go_wp2_with fail
        refine (ref3_Value _ _ _ ((a1_0 - a0_2) * (a1_3 - a0_1) - (a1_1 - a0_3) * (a1_2 - a0_0)) _ FS110_5.out (fit4s (bd_mul i1_0 i0_2 i1_3 i0_1) (bd_mul i1_1 i0_3 i1_2 i0_0)).1 (by omega)).mono ?_
        rintro e w6 ⟨⟨A18, n18, c18, rfl, b18, N18⟩, B⟩
        have HB6 := Lib.hid (HB5.out.trans (B.mono HB5.out.size))
        have FP_6 := Lib.hid (FP_5.out.below B (Nat.le_refl _))
        have FQ_6 := Lib.hid (FQ_5.out.below B (Nat.le_refl _))
        have FB9_6 := Lib.hid (FB9_5.out.below B (Nat.le_refl _))
        have FS9_6 := Lib.hid (FS9_5.out.below B (Nat.le_refl _))
        have FT9_6 := Lib.hid (FT9_5.out.below B (Nat.le_refl _))
        have FB10_6 := Lib.hid (FB10_5.out.below B (Nat.le_refl _))
        have FS10_6 := Lib.hid (FS10_5.out.below B (Nat.le_refl _))
        have FT10_6 := Lib.hid (FT10_5.out.below B (Nat.le_refl _))
        have FB11_6 := Lib.hid (FB11_5.out.below B (Nat.le_refl _))
        have FS11_6 := Lib.hid (FS11_5.out.below B (Nat.le_refl _))
        have FT11_6 := Lib.hid (FT11_5.out.below B (Nat.le_refl _))
        have FB12_6 := Lib.hid (FB12_5.out.below B (Nat.le_refl _))
        have FS12_6 := Lib.hid (FS12_5.out.below B (Nat.le_refl _))
        have FT12_6 := Lib.hid (FT12_5.out.below B (Nat.le_refl _))
        have FS109_6 := Lib.hid (FS109_5.out.below B (Nat.le_refl _))
        have FS110_6 := Lib.hid (FS110_5.out.below B (Nat.le_refl _))
        have FS111_6 := Lib.hid (FS111_5.out.below B (Nat.le_refl _))
        have FS17_6 := Lib.hid (FS17_5.out.below B (Nat.le_refl _))
        have FS18_6 := Lib.hid N18
        clear B N18 HB5 FP_5 FQ_5 FB9_5 FS9_5 FT9_5 FB10_5 FS10_5 FT10_5 FB11_5 FS11_5 FT11_5 FB12_5 FS12_5 FT12_5 FS109_5 FS110_5 FS111_5 FS17_5
        go_wp2_with fail
        refine (ref3_Add _ _ _ _ _ _ _ _ _ FS17_6.out FS18_6.out (by omega) (by omega)).mono ?_
        rintro e w7 ⟨⟨A16, n16, c16, rfl, b16, N16⟩, B⟩
        have HB7 := Lib.hid (HB6.out.trans (B.mono HB6.out.size))
        have FP_7 := Lib.hid (FP_6.out.below B (Nat.le_refl _))
        have FQ_7 := Lib.hid (FQ_6.out.below B (Nat.le_refl _))
        have FB9_7 := Lib.hid (FB9_6.out.below B (Nat.le_refl _))
        have FS9_7 := Lib.hid (FS9_6.out.below B (Nat.le_refl _))
        have FT9_7 := Lib.hid (FT9_6.out.below B (Nat.le_refl _))
        have FB10_7 := Lib.hid (FB10_6.out.below B (Nat.le_refl _))
        have FS10_7 := Lib.hid (FS10_6.out.below B (Nat.le_refl _))
        have FT10_7 := Lib.hid (FT10_6.out.below B (Nat.le_refl _))
        have FB11_7 := Lib.hid (FB11_6.out.below B (Nat.le_refl _))
        have FS11_7 := Lib.hid (FS11_6.out.below B (Nat.le_refl _))
        have FT11_7 := Lib.hid (FT11_6.out.below B (Nat.le_refl _))
        have FB12_7 := Lib.hid (FB12_6.out.below B (Nat.le_refl _))
        have FS12_7 := Lib.hid (FS12_6.out.below B (Nat.le_refl _))
        have FT12_7 := Lib.hid (FT12_6.out.below B (Nat.le_refl _))
        have FS109_7 := Lib.hid (FS109_6.out.below B (Nat.le_refl _))
        have FS110_7 := Lib.hid (FS110_6.out.below B (Nat.le_refl _))
        have FS111_7 := Lib.hid (FS111_6.out.below B (Nat.le_refl _))
        have FS17_7 := Lib.hid (FS17_6.out.below B (Nat.le_refl _))
        have FS18_7 := Lib.hid (FS18_6.out.below B (Nat.le_refl _))
        have FS16_7 := Lib.hid N16
        clear B N16 HB6 FP_6 FQ_6 FB9_6 FS9_6 FT9_6 FB10_6 FS10_6 FT10_6 FB11_6 FS11_6 FT11_6 FB12_6 FS12_6 FT12_6 FS109_6 FS110_6 FS111_6 FS17_6 FS18_6
        go_upto_region 7 with (fail)
        have B : Below w.heap.size w (w7.alloc (.cells #[.int .i64 (sg ((a0_2 - a0_0) * (a1_3 - a0_1) - (a0_3 - a0_1) * (a1_2 - a0_0) + ((a1_0 - a0_2) * (a1_3 - a0_1) - (a1_1 - a0_3) * (a1_2 - a0_0)))), .slice A16 n16 c16] 30)) := (HB7.out.alloc HB7.out.size _)
        have C : Below w7.heap.size w7 (w7.alloc (.cells #[.int .i64 (sg ((a0_2 - a0_0) * (a1_3 - a0_1) - (a0_3 - a0_1) * (a1_2 - a0_0) + ((a1_0 - a0_2) * (a1_3 - a0_1) - (a1_1 - a0_3) * (a1_2 - a0_0)))), .slice A16 n16 c16] 30)) := ((Below.refl w7.heap.size w7).alloc (Nat.le_refl _) _)
        have X0 : Bx (w7.alloc (.cells #[.int .i64 (sg ((a0_2 - a0_0) * (a1_3 - a0_1) - (a0_3 - a0_1) * (a1_2 - a0_0) + ((a1_0 - a0_2) * (a1_3 - a0_1) - (a1_1 - a0_3) * (a1_2 - a0_0)))), .slice A16 n16 c16] 30)) (w7.heap.size) #[.int .i64 (sg ((a0_2 - a0_0) * (a1_3 - a0_1) - (a0_3 - a0_1) * (a1_2 - a0_0) + ((a1_0 - a0_2) * (a1_3 - a0_1) - (a1_1 - a0_3) * (a1_2 - a0_0)))), .slice A16 n16 c16] 30 := by simpa using (Bx.new w7 #[.int .i64 (sg ((a0_2 - a0_0) * (a1_3 - a0_1) - (a0_3 - a0_1) * (a1_2 - a0_0) + ((a1_0 - a0_2) * (a1_3 - a0_1) - (a1_1 - a0_3) * (a1_2 - a0_0)))), .slice A16 n16 c16] 30)
        have FP_8 := Lib.hid (FP_7.out.below C (Nat.le_refl _))
        have FQ_8 := Lib.hid (FQ_7.out.below C (Nat.le_refl _))
        have FB9_8 := Lib.hid (FB9_7.out.below C (Nat.le_refl _))
        have FS9_8 := Lib.hid (FS9_7.out.below C (Nat.le_refl _))
        have FT9_8 := Lib.hid (FT9_7.out.below C (Nat.le_refl _))
        have FB10_8 := Lib.hid (FB10_7.out.below C (Nat.le_refl _))
        have FS10_8 := Lib.hid (FS10_7.out.below C (Nat.le_refl _))
        have FT10_8 := Lib.hid (FT10_7.out.below C (Nat.le_refl _))
        have FB11_8 := Lib.hid (FB11_7.out.below C (Nat.le_refl _))
        have FS11_8 := Lib.hid (FS11_7.out.below C (Nat.le_refl _))
        have FT11_8 := Lib.hid (FT11_7.out.below C (Nat.le_refl _))
        have FB12_8 := Lib.hid (FB12_7.out.below C (Nat.le_refl _))
        have FS12_8 := Lib.hid (FS12_7.out.below C (Nat.le_refl _))
        have FT12_8 := Lib.hid (FT12_7.out.below C (Nat.le_refl _))
        have FS109_8 := Lib.hid (FS109_7.out.below C (Nat.le_refl _))
        have FS110_8 := Lib.hid (FS110_7.out.below C (Nat.le_refl _))
        have FS111_8 := Lib.hid (FS111_7.out.below C (Nat.le_refl _))
        have FS17_8 := Lib.hid (FS17_7.out.below C (Nat.le_refl _))
        have FS18_8 := Lib.hid (FS18_7.out.below C (Nat.le_refl _))
        have FS16_8 := Lib.hid (FS16_7.out.below C (Nat.le_refl _))
        have HB8 := Lib.hid B
        have FB16_8 := Lib.hid X0
        clear B C X0 HB7 FP_7 FQ_7 FB9_7 FS9_7 FT9_7 FB10_7 FS10_7 FT10_7 FB11_7 FS11_7 FT11_7 FB12_7 FS12_7 FT12_7 FS109_7 FS110_7 FS111_7 FS17_7 FS18_7 FS16_7
        generalize (w7.alloc (.cells #[.int .i64 (sg ((a0_2 - a0_0) * (a1_3 - a0_1) - (a0_3 - a0_1) * (a1_2 - a0_0) + ((a1_0 - a0_2) * (a1_3 - a0_1) - (a1_1 - a0_3) * (a1_2 - a0_0)))), .slice A16 n16 c16] 30)) = w8 at *
        have RB8 := Lib.hid (below_drew0 w8)
        refine wp_region_held_drew (S := fun _ => True) (by kernel_rfl) trivial (fun _ => ?_)
        refine wpAnyH_gen [] [⟨0, 64, fun x _ => x = .bool true⟩, ⟨1, 65, fun x _ => x = .bool true⟩, ⟨2, 66, fun x _ => x = .agg #[.int .i64 (sg ((a0_2 - a0_0) * (a1_3 - a0_1) - (a0_3 - a0_1) * (a1_2 - a0_0) + ((a1_0 - a0_2) * (a1_3 - a0_1) - (a1_1 - a0_3) * (a1_2 - a0_0)))), .slice A16 n16 c16]⟩, ⟨3, 67, fun x _ => x = .slice A111 4 c111⟩, ⟨4, 68, fun x w => ∃ (A : Option Addr) (n c : Nat), x = .agg #[.int .i64 (sg ((a1_0 - a0_0) * (a1_3 - a0_1) - (a1_1 - a0_1) * (a1_2 - a0_0))), .slice A n c] ∧ Nm w A n c ((a1_0 - a0_0) * (a1_3 - a0_1) - (a1_1 - a0_1) * (a1_2 - a0_0)) ∧ n ≤ 4 * 4 + 2⟩, ⟨5, 69, fun x w => ∃ (A : Option Addr) (n c : Nat), x = .agg #[.int .i64 0, .slice A n c]⟩, ⟨6, 70, fun x _ => x = .int .i64 0⟩, ⟨7, 71, fun x _ => x = .bool true⟩, ⟨8, 72, fun x _ => x = .bool true⟩, ⟨9, 4, fun x _ => x = .bool true⟩] (by kernel_rfl) (by kernel_rfl) (fun _ => trivial) ?_ ?_ ?_ ?_ ?_ ?_
        · exact trivial
        · refine ⟨?_, ?_, ?_, ?_, ?_, ?_, ?_, ?_, ?_, ?_, trivial⟩
          all_goals (intro x; (dsimp only; repeat (first | exact Stay.const _ | exact Stay.sl _ _ _ _ | exact Stay.nm _ _ _ _ | exact Stay.bx _ _ _ _ | refine Stay.ex fun _ => ?_ | refine Stay.and ?_ ?_)))
        · exact trivial
        · exact trivial
        · refine ⟨?_, ?_, ?_, ?_, ?_, ?_, ?_, ?_, ?_, ?_, trivial⟩
          · intro a w K hb ht hd hK
            have hbw := Lib.hid (below_tr RB8.out hb); clear hb
            clear ht hd
            have HK := Lib.hid hK; clear hK
            refine wpOp_step (by simp only [List.getElem?_toArray, List.getElem?_cons_succ, List.getElem?_cons_zero]; rfl) (fun K' hK' => ?_)
            have HK' := Lib.hid hK'; clear hK'
            go_simp
            refine (alive5 _).mono ?_
            rintro e w1 ⟨rfl, B⟩
            go_wp2_with fail
            exact HK'.out _ _ (HK.out _ _ B rfl)
          · intro a w K hb ht hd hK
            have hbw := Lib.hid (below_tr RB8.out hb); clear hb
            obtain ⟨x64, hx64, hp64⟩ := hd 0 _ rfl (by kernel_rfl)
            obtain rfl := hp64
            have es64 : a.tmps.getD 64 undef = _ := getD_of hx64; clear hx64
            clear ht hd
            have HK := Lib.hid hK; clear hK
            refine wpOp_step (by simp only [List.getElem?_toArray, List.getElem?_cons_succ, List.getElem?_cons_zero]; rfl) (fun K' hK' => ?_)
            have HK' := Lib.hid hK'; clear hK'
            go_simp
            exact HK'.out _ _ (HK.out _ _ below_rf rfl)
          · intro a w K hb ht hd hK
            have hbw := Lib.hid (below_tr RB8.out hb); clear hb
            have hx16 := (ht 16 rfl).trans rfl
            have es16 : a.tmps.getD 16 undef = _ := getD_of hx16; clear hx16
            obtain ⟨x65, hx65, hp65⟩ := hd 1 _ rfl (by kernel_rfl)
            obtain rfl := hp65
            have es65 : a.tmps.getD 65 undef = _ := getD_of hx65; have gs65 : a.tmps[65]? = some _ := hx65; clear hx65
            clear ht hd
            have c0 := (FB16_8.out.below hbw.out (Nat.le_refl _)).cell 0 (v := .int .i64 (sg ((a0_2 - a0_0) * (a1_3 - a0_1) - (a0_3 - a0_1) * (a1_2 - a0_0) + ((a1_0 - a0_2) * (a1_3 - a0_1) - (a1_1 - a0_3) * (a1_2 - a0_0))))) rfl
            have c1 := (FB16_8.out.below hbw.out (Nat.le_refl _)).cell 1 (v := .slice A16 n16 c16) rfl
            have HK := Lib.hid hK; clear hK
            refine wpOp_step (by simp only [List.getElem?_toArray, List.getElem?_cons_succ, List.getElem?_cons_zero]; rfl) (fun K' hK' => ?_)
            have HK' := Lib.hid hK'; clear hK'
            go_simp
            exact HK'.out _ _ (HK.out _ _ below_rf rfl)
          · intro a w K hb ht hd hK
            have hbw := Lib.hid (below_tr RB8.out hb); clear hb
            have hx15 := (ht 15 rfl).trans rfl
            have es15 : a.tmps.getD 15 undef = _ := getD_of hx15; clear hx15
            obtain ⟨x65, hx65, hp65⟩ := hd 1 _ rfl (by kernel_rfl)
            obtain rfl := hp65
            have es65 : a.tmps.getD 65 undef = _ := getD_of hx65; have gs65 : a.tmps[65]? = some _ := hx65; clear hx65
            clear ht hd
            have HK := Lib.hid hK; clear hK
            refine wpOp_step (by simp only [List.getElem?_toArray, List.getElem?_cons_succ, List.getElem?_cons_zero]; rfl) (fun K' hK' => ?_)
            have HK' := Lib.hid hK'; clear hK'
            go_simp
            exact HK'.out _ _ (HK.out _ _ below_rf rfl)
          · intro a w K hb ht hd hK
            have hbw := Lib.hid (below_tr RB8.out hb); clear hb
            obtain ⟨x67, hx67, hp67⟩ := hd 3 _ rfl (by kernel_rfl)
            obtain rfl := hp67
            have es67 : a.tmps.getD 67 undef = _ := getD_of hx67; clear hx67
            obtain ⟨x65, hx65, hp65⟩ := hd 1 _ rfl (by kernel_rfl)
            obtain rfl := hp65
            have es65 : a.tmps.getD 65 undef = _ := getD_of hx65; have gs65 : a.tmps[65]? = some _ := hx65; clear hx65
            clear ht hd
            have HK := Lib.hid hK; clear hK
            refine wpOp_step (by simp only [List.getElem?_toArray, List.getElem?_cons_succ, List.getElem?_cons_zero]; rfl) (fun K' hK' => ?_)
            have HK' := Lib.hid hK'; clear hK'
            go_simp
            refine (ref3_Value _ _ _ ((a1_0 - a0_0) * (a1_3 - a0_1) - (a1_1 - a0_1) * (a1_2 - a0_0)) _ (FS111_8.out.below hbw.out (Nat.le_refl _)) (fit4s (bd_mul i1_0 i0_0 i1_3 i0_1) (bd_mul i1_1 i0_1 i1_2 i0_0)).1 (by omega)).mono ?_
            rintro e w1 ⟨⟨A, n, c, rfl, b, S⟩, B⟩
            go_wp2_with fail
            exact HK'.out _ _ (HK.out _ _ B ⟨A, n, c, rfl, S, b⟩)
          · intro a w K hb ht hd hK
            have hbw := Lib.hid (below_tr RB8.out hb); clear hb
            obtain ⟨x66, hx66, hp66⟩ := hd 2 _ rfl (by kernel_rfl)
            obtain rfl := hp66
            have es66 : a.tmps.getD 66 undef = _ := getD_of hx66; clear hx66
            obtain ⟨x68, hx68, hp68⟩ := hd 4 _ rfl (by kernel_rfl)
            obtain ⟨A4, n4, c4, rfl, S4, b4⟩ := hp68
            have es68 : a.tmps.getD 68 undef = _ := getD_of hx68; clear hx68
            obtain ⟨x65, hx65, hp65⟩ := hd 1 _ rfl (by kernel_rfl)
            obtain rfl := hp65
            have es65 : a.tmps.getD 65 undef = _ := getD_of hx65; have gs65 : a.tmps[65]? = some _ := hx65; clear hx65
            clear ht hd
            have HK := Lib.hid hK; clear hK
            refine wpOp_step (by simp only [List.getElem?_toArray, List.getElem?_cons_succ, List.getElem?_cons_zero]; rfl) (fun K' hK' => ?_)
            have HK' := Lib.hid hK'; clear hK'
            go_simp
            refine (ref3_Sub _ _ _ _ _ _ _ _ _ (FS16_8.out.below hbw.out (Nat.le_refl _)) S4 (by omega) (by omega)).mono ?_
            rintro e w1 ⟨⟨A, n, c, rfl, b, S⟩, B⟩
            rw [HZ.out]
            go_wp2_with fail
            exact HK'.out _ _ (HK.out _ _ B ⟨A, n, c, rfl⟩)
          · intro a w K hb ht hd hK
            have hbw := Lib.hid (below_tr RB8.out hb); clear hb
            obtain ⟨x69, hx69, hp69⟩ := hd 5 _ rfl (by kernel_rfl)
            obtain ⟨A5, n5, c5, rfl⟩ := hp69
            have es69 : a.tmps.getD 69 undef = _ := getD_of hx69; clear hx69
            obtain ⟨x65, hx65, hp65⟩ := hd 1 _ rfl (by kernel_rfl)
            obtain rfl := hp65
            have es65 : a.tmps.getD 65 undef = _ := getD_of hx65; have gs65 : a.tmps[65]? = some _ := hx65; clear hx65
            clear ht hd
            have HK := Lib.hid hK; clear hK
            refine wpOp_step (by simp only [List.getElem?_toArray, List.getElem?_cons_succ, List.getElem?_cons_zero]; rfl) (fun K' hK' => ?_)
            have HK' := Lib.hid hK'; clear hK'
            go_simp
            exact HK'.out _ _ (HK.out _ _ below_rf rfl)
          · intro a w K hb ht hd hK
            have hbw := Lib.hid (below_tr RB8.out hb); clear hb
            obtain ⟨x70, hx70, hp70⟩ := hd 6 _ rfl (by kernel_rfl)
            obtain rfl := hp70
            have es70 : a.tmps.getD 70 undef = _ := getD_of hx70; clear hx70
            obtain ⟨x65, hx65, hp65⟩ := hd 1 _ rfl (by kernel_rfl)
            obtain rfl := hp65
            have es65 : a.tmps.getD 65 undef = _ := getD_of hx65; have gs65 : a.tmps[65]? = some _ := hx65; clear hx65
            clear ht hd
            have HK := Lib.hid hK; clear hK
            refine wpOp_step (by simp only [List.getElem?_toArray, List.getElem?_cons_succ, List.getElem?_cons_zero]; rfl) (fun K' hK' => ?_)
            have HK' := Lib.hid hK'; clear hK'
            go_simp
            exact HK'.out _ _ (HK.out _ _ below_rf rfl)
          · intro a w K hb ht hd hK
            have hbw := Lib.hid (below_tr RB8.out hb); clear hb
            obtain ⟨x65, hx65, hp65⟩ := hd 1 _ rfl (by kernel_rfl)
            obtain rfl := hp65
            have es65 : a.tmps.getD 65 undef = _ := getD_of hx65; clear hx65
            obtain ⟨x71, hx71, hp71⟩ := hd 7 _ rfl (by kernel_rfl)
            obtain rfl := hp71
            have es71 : a.tmps.getD 71 undef = _ := getD_of hx71; clear hx71
            clear ht hd
            have HK := Lib.hid hK; clear hK
            refine wpOp_step (by simp only [List.getElem?_toArray, List.getElem?_cons_succ, List.getElem?_cons_zero]; rfl) (fun K' hK' => ?_)
            have HK' := Lib.hid hK'; clear hK'
            go_simp
            exact HK'.out _ _ (HK.out _ _ below_rf rfl)
          · intro a w K hb ht hd hK
            have hbw := Lib.hid (below_tr RB8.out hb); clear hb
            obtain ⟨x72, hx72, hp72⟩ := hd 8 _ rfl (by kernel_rfl)
            obtain rfl := hp72
            have es72 : a.tmps.getD 72 undef = _ := getD_of hx72; clear hx72
            clear ht hd
            have HK := Lib.hid hK; clear hK
            refine wpOp_step (by simp only [List.getElem?_toArray, List.getElem?_cons_succ, List.getElem?_cons_zero]; rfl) (fun K' hK' => ?_)
            have HK' := Lib.hid hK'; clear hK'
            go_simp
            exact HK'.out _ _ (HK.out _ _ below_rf rfl)
        · intro w9 X B hb hv hx hd
          simp only [List.foldl_cons, List.foldl_nil, Act.put, List.setIfInBounds_toArray, List.set_cons_zero, List.set_cons_succ, ptrTo]
          obtain ⟨hv0, hv1, hv2, hv3, hv4, hv5, hv6, hv7, hv8, hv9, -⟩ := hv
          clear hd
          have hV0 : (fun x _ => x = .bool true) (X 64) w9 := hv0; clear hv0; have hv0 := hV0; clear hV0; generalize X 64 = X64 at *
          have hV1 : (fun x _ => x = .bool true) (X 65) w9 := hv1; clear hv1; have hv1 := hV1; clear hV1; generalize X 65 = X65 at *
          have hV2 : (fun x _ => x = .agg #[.int .i64 (sg ((a0_2 - a0_0) * (a1_3 - a0_1) - (a0_3 - a0_1) * (a1_2 - a0_0) + ((a1_0 - a0_2) * (a1_3 - a0_1) - (a1_1 - a0_3) * (a1_2 - a0_0)))), .slice A16 n16 c16]) (X 66) w9 := hv2; clear hv2; have hv2 := hV2; clear hV2; generalize X 66 = X66 at *
          have hV3 : (fun x _ => x = .slice A111 4 c111) (X 67) w9 := hv3; clear hv3; have hv3 := hV3; clear hV3; generalize X 67 = X67 at *
          have hV4 : (fun x w => ∃ (A : Option Addr) (n c : Nat), x = .agg #[.int .i64 (sg ((a1_0 - a0_0) * (a1_3 - a0_1) - (a1_1 - a0_1) * (a1_2 - a0_0))), .slice A n c] ∧ Nm w A n c ((a1_0 - a0_0) * (a1_3 - a0_1) - (a1_1 - a0_1) * (a1_2 - a0_0)) ∧ n ≤ 4 * 4 + 2) (X 68) w9 := hv4; clear hv4; have hv4 := hV4; clear hV4; generalize X 68 = X68 at *
          have hV5 : (fun x w => ∃ (A : Option Addr) (n c : Nat), x = .agg #[.int .i64 0, .slice A n c]) (X 69) w9 := hv5; clear hv5; have hv5 := hV5; clear hV5; generalize X 69 = X69 at *
          have hV6 : (fun x _ => x = .int .i64 0) (X 70) w9 := hv6; clear hv6; have hv6 := hV6; clear hV6; generalize X 70 = X70 at *
          have hV7 : (fun x _ => x = .bool true) (X 71) w9 := hv7; clear hv7; have hv7 := hV7; clear hV7; generalize X 71 = X71 at *
          have hV8 : (fun x _ => x = .bool true) (X 72) w9 := hv8; clear hv8; have hv8 := hV8; clear hV8; generalize X 72 = X72 at *
          have hV9 : (fun x _ => x = .bool true) (X 4) w9 := hv9; clear hv9; have hv9 := hV9; clear hV9; generalize X 4 = X4 at *
          obtain rfl := hv0
          obtain rfl := hv1
          obtain rfl := hv2
          obtain rfl := hv3
          clear hv4
          clear hv5
          obtain rfl := hv6
          obtain rfl := hv7
          obtain rfl := hv8
          obtain rfl := hv9
          have RC := Lib.hid (below_tr RB8.out hb); clear hb
          have FP_9 := Lib.hid (FP_8.out.below RC.out (Nat.le_refl _))
          have FQ_9 := Lib.hid (FQ_8.out.below RC.out (Nat.le_refl _))
          have FB9_9 := Lib.hid (FB9_8.out.below RC.out (Nat.le_refl _))
          have FS9_9 := Lib.hid (FS9_8.out.below RC.out (Nat.le_refl _))
          have FT9_9 := Lib.hid (FT9_8.out.below RC.out (Nat.le_refl _))
          have FB10_9 := Lib.hid (FB10_8.out.below RC.out (Nat.le_refl _))
          have FS10_9 := Lib.hid (FS10_8.out.below RC.out (Nat.le_refl _))
          have FT10_9 := Lib.hid (FT10_8.out.below RC.out (Nat.le_refl _))
          have FB11_9 := Lib.hid (FB11_8.out.below RC.out (Nat.le_refl _))
          have FS11_9 := Lib.hid (FS11_8.out.below RC.out (Nat.le_refl _))
          have FT11_9 := Lib.hid (FT11_8.out.below RC.out (Nat.le_refl _))
          have FB12_9 := Lib.hid (FB12_8.out.below RC.out (Nat.le_refl _))
          have FS12_9 := Lib.hid (FS12_8.out.below RC.out (Nat.le_refl _))
          have FT12_9 := Lib.hid (FT12_8.out.below RC.out (Nat.le_refl _))
          have FS109_9 := Lib.hid (FS109_8.out.below RC.out (Nat.le_refl _))
          have FS110_9 := Lib.hid (FS110_8.out.below RC.out (Nat.le_refl _))
          have FS111_9 := Lib.hid (FS111_8.out.below RC.out (Nat.le_refl _))
          have FS17_9 := Lib.hid (FS17_8.out.below RC.out (Nat.le_refl _))
          have FS18_9 := Lib.hid (FS18_8.out.below RC.out (Nat.le_refl _))
          have FS16_9 := Lib.hid (FS16_8.out.below RC.out (Nat.le_refl _))
          have FB16_9 := Lib.hid (FB16_8.out.below RC.out (Nat.le_refl _))
          have HB9 := Lib.hid (HB8.out.trans (RC.out.mono HB8.out.size))
          clear HB8 FP_8 FQ_8 FB9_8 FS9_8 FT9_8 FB10_8 FS10_8 FT10_8 FB11_8 FS11_8 FT11_8 FB12_8 FS12_8 FT12_8 FS109_8 FS110_8 FS111_8 FS17_8 FS18_8 FS16_8 FB16_8 RC RB8
          go_wp2_with fail
          go_ret
          exact ⟨rfl, HB9.out⟩

set_option maxRecDepth 100000 in
theorem lifted (os : Os) (started : os.Started) (H : Type) (enc : TypeId × Value → H) :
    ReturnsInHanded {} Try.checked os 8 .any (Rows.diffTriangleSpec.pre6 enc Try.prog Try.f8 Rows.diffTriangleRow.domain false) (Rows.diffTriangleSpec.post enc Try.prog Try.f8 false true false false) := by
  refine returnsInHanded_of_change (C := Try.checked) own started (by kernel_rfl) Try.func8
    (ChangeSpec.witness6 (enc := enc) (C := Try.checked) false ⟨#[], #[.agg #[.int .i64 0, .int .i64 0, .int .i64 0, .int .i64 0], .agg #[.int .i64 0, .int .i64 0, .int .i64 0, .int .i64 0]], []⟩ 8 (by kernel_rfl) (by kernel_rfl) (by kernel_rfl) (by kernel_rfl)) ?_
  intro W base args ds gs before hval0 hW hcnd _
  have hval : ∀ (j : Nat) t v, Try.f8.params[j]? = some t → args[j]? = some v → Value.okWide Try.prog W .any base t v := hval0
  have hW' := hW
  obtain ⟨p, q, hA0, hV, rfl, hfz, hnd⟩ := hW
  have hA : DataW.TrodAll enc Try.prog W 0 (fun _ => true) true Try.f8.params.toList args.toList ds p := hA0
  rw [Try.params8] at hA hval
  obtain ⟨v0, vs0, d0, ds0, p0, q0, hargs, rfl, rfl, h0, r0⟩ := trodAll_cons hA
  obtain ⟨v1, vs1, d1, ds1, p1, q1, rfl, rfl, rfl, h1, r1⟩ := trodAll_cons r0
  obtain ⟨rfl, rfl, rfl⟩ := trodAll_nil r1
  obtain rfl : args = #[v0, v1] := by cases args; simp_all
  obtain ⟨rfl, rfl⟩ := trodVars_none hV
  have k0 := h0
  have lt0 : ∀ x ∈ p0, x.block < W.heap.size := by obtain ⟨m, hm⟩ := k0; exact DataW.trod_lt m _ _ _ hm
  have k1 := h1
  have lt1 : ∀ x ∈ p1, x.block < W.heap.size := by obtain ⟨m, hm⟩ := k1; exact DataW.trod_lt m _ _ _ hm
  obtain ⟨a0_0, a0_1, a0_2, a0_3, rfl, w0_0, w0_1, w0_2, w0_3⟩ := Op.open_pts2 Try.underlying52 Try.underlying23 rfl rfl rfl rfl Try.underlying2 (by kernel_rfl) (by kernel_rfl) (by kernel_rfl) h0
  obtain ⟨a1_0, a1_1, a1_2, a1_3, rfl, w1_0, w1_1, w1_2, w1_3⟩ := Op.open_pts2 Try.underlying52 Try.underlying23 rfl rfl rfl rfl Try.underlying2 (by kernel_rfl) (by kernel_rfl) (by kernel_rfl) h1
  clear hA0 hval0
  refine (walk a0_0 a0_1 a0_2 a0_3 w0_0 w0_1 w0_2 w0_3 a1_0 a1_1 a1_2 a1_3 w1_0 w1_1 w1_2 w1_3).mono fun e W' ⟨he, bel⟩ => ?_
  subst he
  exact ⟨_, rfl, _, _, _, [], _, [], hW', trodAll_mk1 (shut_bool Try.underlying4 _), (trodAll_cons_mk (Below.trod laidOut (by kernel_rfl) (of_decide_eq_true (by kernel_rfl)) k0 bel lt0) (trodAll_cons_mk (Below.trod laidOut (by kernel_rfl) (of_decide_eq_true (by kernel_rfl)) k1 bel lt1) trodAll_mk0)), rfl, bel.frame _, fun h => by cases h⟩

theorem over : Rows.diffTriangleRow.holds Try.pinned (OpenSpec.ofChange Rows.diffTriangleSpec) :=
  OpenClaim.holds_of_wide 8 Try.f8 rfl rfl rfl rfl rfl rfl rfl ⟨rfl, rfl, rfl, rfl, rfl⟩ rfl rfl rfl rfl rfl (by kernel_rfl) Try.func8 (by kernel_rfl)
    (of_decide_eq_true (by kernel_rfl)) (by unfold Func.isWrapper; first | (rw [if_pos (by decide +kernel)]; kernel_rfl) | (rw [if_neg (by decide +kernel)]; exact ⟨rfl, rfl⟩))
    (fun os started H enc _ => lifted os started H enc)

/-- THE STATEMENT -/
theorem proved : Rows.DiffTriangleSaid := over
#print axioms proved
end Go.Proofs.Ytfjanlfbnliokaa.diffTriangle
