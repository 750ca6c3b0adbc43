/- DiffVectors: for every input the law returns true, and each argument reads afterwards as it read before. -/
import Derived.Test.YtfjanlfbnliokaaRows
import Derived.Test.YtfjanlfbnliokaaLaw5
import Derived.Test.YtfjanlfbnliokaaGeo
import Derived.Test.YtfjanlfbnliokaaOpenPt
import Derived.WalkKit
import Derived.ProofKit
import Derived.OpenShut
import Derived.Below
namespace Go.Proofs.Ytfjanlfbnliokaa.diffVectors
open Go.ChangeShapes Go.WideShapes Go.ChangeAt Go.RowKit Wd
set_option linter.unusedVariables false
set_option linter.unusedSimpArgs false

theorem own : ownKnob Try.prog.godebug = none := by kernel_rfl
theorem laidOut : laidOutB Try.prog = true := by kernel_rfl

theorem fitN {x y : Int} (hx : IsI x) (hy : IsI y) : Fit 2 (-(x - y)) := by
  unfold Fit IsI at *
  rw [show S 2 = 340282366920938463463374607431768211456 from rfl]; omega
theorem bd_mul {a b c d : Int} (ha : IsI a) (hb : IsI b) (hc : IsI c) (hd : IsI d) : -340282366920938463463374607431768211456 ≤ (a - b) * (c - d) ∧ (a - b) * (c - d) ≤ 340282366920938463463374607431768211456 := by
  unfold IsI at *
  exact abs_mul_le (x := a - b) (y := c - d) (a := 18446744073709551616) (b := 18446744073709551616) ⟨by omega, by omega⟩ ⟨by omega, by omega⟩
theorem fit4s {x y : Int} (hx : -340282366920938463463374607431768211456 ≤ x ∧ x ≤ 340282366920938463463374607431768211456) (hy : -340282366920938463463374607431768211456 ≤ y ∧ y ≤ 340282366920938463463374607431768211456) : Fit 4 (x - y) ∧ Fit 4 (x + y) := by
  unfold Fit
  rw [show S 4 = 115792089237316195423570985008687907853269984665640564039457584007913129639936 from rfl]; omega
theorem nm_neg {w : World} {A : Option Addr} {n c : Nat} {x : Int} (h : Nm w A n c x) : Nm w A n c (-x) := by unfold Nm at *; rw [Int.natAbs_neg]; exact h
theorem sg0 {x : Int} (h : x = 0) : sg x = 0 := by rw [h]; rfl
set_option maxHeartbeats 4000000 in
theorem walk {w : World} (A0 : Option Addr) (n0 c0 : Nat) (x0 : Int) (B0 : Option Addr) (l0 d0_ : Nat) (y0 : Int) (f0 : Fit n0 x0) (s0 : Sl w .u64 A0 n0 c0 (lmb x0)) (g0 : Fit l0 y0) (t0 : Sl w .u64 B0 l0 d0_ (lmb y0)) (A1 : Option Addr) (n1 c1 : Nat) (x1 : Int) (B1 : Option Addr) (l1 d1_ : Nat) (y1 : Int) (f1 : Fit n1 x1) (s1 : Sl w .u64 A1 n1 c1 (lmb x1)) (g1 : Fit l1 y1) (t1 : Sl w .u64 B1 l1 d1_ (lmb y1))  :
    Calls Try.prog 5 #[.agg #[.slice A0 n0 c0, .slice B0 l0 d0_], .agg #[.slice A1 n1 c1, .slice B1 l1 d1_]] w fun e w' => e = .returned (.bool true) ∧ Below w.heap.size w w' := by
  have HB0 := Lib.hid (Below.refl w.heap.size w)
  have FS0 := Lib.hid s0; have m0 : n0 ≤ maxLen := Nat.le_trans s0.cap s0.max
  have HF0 := Lib.hid f0; have FT0 := Lib.hid t0; have p0 : l0 ≤ maxLen := Nat.le_trans t0.cap t0.max
  have HG0 := Lib.hid g0; clear s0 f0 t0 g0
  have FS1 := Lib.hid s1; have m1 : n1 ≤ maxLen := Nat.le_trans s1.cap s1.max
  have HF1 := Lib.hid f1; have FT1 := Lib.hid t1; have p1 : l1 ≤ maxLen := Nat.le_trans t1.cap t1.max
  have HG1 := Lib.hid g1; clear s1 f1 t1 g1
  go_enter Try.func5, Try.ntmps5
  go_wp2_with fail
  · skip
    refine (alive5 _).mono ?_
    rintro e w1 ⟨rfl, B⟩
    have HB1 := Lib.hid (((HB0.out.alloc HB0.out.size _).alloc (HB0.out.alloc HB0.out.size _).size _).trans (B.mono ((HB0.out.alloc HB0.out.size _).alloc (HB0.out.alloc HB0.out.size _).size _).size))
    have FS0_1 := Lib.hid (((FS0.out.alloc _).alloc _).below B (Nat.le_refl _))
    have FT0_1 := Lib.hid (((FT0.out.alloc _).alloc _).below B (Nat.le_refl _))
    have FS1_1 := Lib.hid (((FS1.out.alloc _).alloc _).below B (Nat.le_refl _))
    have FT1_1 := Lib.hid (((FT1.out.alloc _).alloc _).below B (Nat.le_refl _))
    clear B  HB0 FS0 FT0 FS1 FT1
    go_wp2_with fail
    go_ret
    exact ⟨rfl, HB1.out⟩
  have B : Below w.heap.size w ((w.alloc (.cells #[.slice A0 n0 c0, .slice B0 l0 d0_] 43)).alloc (.cells #[.slice A1 n1 c1, .slice B1 l1 d1_] 43)) := ((HB0.out.alloc HB0.out.size _).alloc (HB0.out.alloc HB0.out.size _).size _)
  have C : Below w.heap.size w ((w.alloc (.cells #[.slice A0 n0 c0, .slice B0 l0 d0_] 43)).alloc (.cells #[.slice A1 n1 c1, .slice B1 l1 d1_] 43)) := (((Below.refl w.heap.size w).alloc (Nat.le_refl _) _).alloc (by simp; try omega) _)
  have X0 : Bx ((w.alloc (.cells #[.slice A0 n0 c0, .slice B0 l0 d0_] 43)).alloc (.cells #[.slice A1 n1 c1, .slice B1 l1 d1_] 43)) (w.heap.size) #[.slice A0 n0 c0, .slice B0 l0 d0_] 43 := by simpa using ((Bx.new w #[.slice A0 n0 c0, .slice B0 l0 d0_] 43).alloc _)
  have X1 : Bx ((w.alloc (.cells #[.slice A0 n0 c0, .slice B0 l0 d0_] 43)).alloc (.cells #[.slice A1 n1 c1, .slice B1 l1 d1_] 43)) (w.heap.size + 1) #[.slice A1 n1 c1, .slice B1 l1 d1_] 43 := by simpa using (Bx.new (w.alloc (.cells #[.slice A0 n0 c0, .slice B0 l0 d0_] 43)) #[.slice A1 n1 c1, .slice B1 l1 d1_] 43)
  have FS0_1 := Lib.hid (FS0.out.below C (Nat.le_refl _))
  have FT0_1 := Lib.hid (FT0.out.below C (Nat.le_refl _))
  have FS1_1 := Lib.hid (FS1.out.below C (Nat.le_refl _))
  have FT1_1 := Lib.hid (FT1.out.below C (Nat.le_refl _))
  have HB1 := Lib.hid B
  have FP_1 := Lib.hid X0
  have FQ_1 := Lib.hid X1
  clear B C X0 X1 HB0 FS0 FT0 FS1 FT1
  generalize ((w.alloc (.cells #[.slice A0 n0 c0, .slice B0 l0 d0_] 43)).alloc (.cells #[.slice A1 n1 c1, .slice B1 l1 d1_] 43)) = w1 at *
  have RB1 := Lib.hid (below_drew0 w1)
  refine wp_region_held_drew (S := fun _ => True) (by kernel_rfl) trivial (fun _ => ?_)
  refine wpAnyH_gen [(⟨2, 4, 5, 26, #[.slice none 0 0, .slice none 0 0], []⟩, fun cs _ => cs = #[.slice A0 n0 c0, .slice B0 l0 d0_]), (⟨3, 5, 6, 26, #[.slice none 0 0, .slice none 0 0], []⟩, fun cs _ => cs = #[.slice A1 n1 c1, .slice B1 l1 d1_])] [⟨0, 30, fun x _ => x = .agg #[.slice A0 n0 c0, .slice B0 l0 d0_]⟩, ⟨1, 31, fun x _ => x = .agg #[.slice A1 n1 c1, .slice B1 l1 d1_]⟩] (by kernel_rfl) (by kernel_rfl) (fun _ => trivial) ?_ ?_ ?_ ?_ ?_ ?_
  · refine ⟨?_, ?_, trivial⟩
    all_goals exact ⟨fun cs => by (dsimp only; repeat (first | exact Stay.const _ | exact Stay.sl _ _ _ _ | exact Stay.nm _ _ _ _ | exact Stay.bx _ _ _ _ | refine Stay.ex fun _ => ?_ | refine Stay.and ?_ ?_)), by dsimp only; decide, by simp [NoU]⟩
  · refine ⟨?_, ?_, trivial⟩
    all_goals (intro x; (dsimp only; repeat (first | exact Stay.const _ | exact Stay.sl _ _ _ _ | exact Stay.nm _ _ _ _ | exact Stay.bx _ _ _ _ | refine Stay.ex fun _ => ?_ | refine Stay.and ?_ ?_)))
  · refine ⟨?_, ?_, trivial⟩
    all_goals (intro a w K h; refine wpOp_step (by simp only [List.getElem?_toArray, List.getElem?_cons_succ, List.getElem?_cons_zero]; rfl) (fun K' hK => ?_); go_simp; exact hK _ _ h)
  · refine ⟨?_, ?_, trivial⟩
    · intro a w B K ht hd hs hb hK
      obtain ⟨x30, hx30, hp30⟩ := hd 0 _ rfl (by kernel_rfl)
      obtain rfl := hp30
      have es30 : a.tmps.getD 30 undef = _ := getD_of hx30; clear hx30
      clear ht hd
      have zc0 := hb.cell 0 (v := .slice none 0 0) rfl; have zf0 := hb.free 0
      have zc1 := hb.cell 1 (v := .slice none 0 0) rfl; have zf1 := hb.free 1
      have HK := Lib.hid (hK [.slice A0 n0 c0, .slice B0 l0 d0_] rfl (by simp [NoU]) rfl); clear hK hb
      simp only [ptrTo] at hs
      have esB : a.tmps.getD 5 undef = _ := getD_of hs; clear hs
      refine wpOp_step (by simp only [List.getElem?_toArray, List.getElem?_cons_succ, List.getElem?_cons_zero]; rfl) (fun K' hK' => ?_)
      go_simp
      exact hK' _ _ HK.out
    · intro a w B K ht hd hs hb hK
      obtain ⟨x31, hx31, hp31⟩ := hd 1 _ rfl (by kernel_rfl)
      obtain rfl := hp31
      have es31 : a.tmps.getD 31 undef = _ := getD_of hx31; clear hx31
      clear ht hd
      have zc0 := hb.cell 0 (v := .slice none 0 0) rfl; have zf0 := hb.free 0
      have zc1 := hb.cell 1 (v := .slice none 0 0) rfl; have zf1 := hb.free 1
      have HK := Lib.hid (hK [.slice A1 n1 c1, .slice B1 l1 d1_] rfl (by simp [NoU]) rfl); clear hK hb
      simp only [ptrTo] at hs
      have esB : a.tmps.getD 6 undef = _ := getD_of hs; clear hs
      refine wpOp_step (by simp only [List.getElem?_toArray, List.getElem?_cons_succ, List.getElem?_cons_zero]; rfl) (fun K' hK' => ?_)
      go_simp
      exact hK' _ _ HK.out
  · refine ⟨?_, ?_, trivial⟩
    · intro a w K hb ht hd hK
      have hbw := Lib.hid (below_tr RB1.out hb); clear hb
      have hx2 := (ht 2 rfl).trans rfl
      have es2 : a.tmps.getD 2 undef = _ := getD_of hx2; clear hx2
      clear ht hd
      have zc0 := (FP_1.out.below hbw.out (Nat.le_refl _)).cell 0 (v := .slice A0 n0 c0) rfl
      have zc1 := (FP_1.out.below hbw.out (Nat.le_refl _)).cell 1 (v := .slice B0 l0 d0_) rfl
      have HK := Lib.hid hK; clear hK
      refine wpOp_step (by simp only [List.getElem?_toArray, List.getElem?_cons_succ, List.getElem?_cons_zero]; rfl) (fun K' hK' => ?_)
      have HK' := Lib.hid hK'; clear hK'
      go_simp
      exact HK'.out _ _ (HK.out _ _ below_rf rfl)
    · intro a w K hb ht hd hK
      have hbw := Lib.hid (below_tr RB1.out hb); clear hb
      have hx3 := (ht 3 rfl).trans rfl
      have es3 : a.tmps.getD 3 undef = _ := getD_of hx3; clear hx3
      clear ht hd
      have zc0 := (FQ_1.out.below hbw.out (Nat.le_refl _)).cell 0 (v := .slice A1 n1 c1) rfl
      have zc1 := (FQ_1.out.below hbw.out (Nat.le_refl _)).cell 1 (v := .slice B1 l1 d1_) rfl
      have HK := Lib.hid hK; clear hK
      refine wpOp_step (by simp only [List.getElem?_toArray, List.getElem?_cons_succ, List.getElem?_cons_zero]; rfl) (fun K' hK' => ?_)
      have HK' := Lib.hid hK'; clear hK'
      go_simp
      exact HK'.out _ _ (HK.out _ _ below_rf rfl)
  · intro w2 X B hb hv hx hd
    simp only [List.foldl_cons, List.foldl_nil, Act.put, List.setIfInBounds_toArray, List.set_cons_zero, List.set_cons_succ, ptrTo]
    obtain ⟨hv0, hv1, -⟩ := hv
    obtain ⟨⟨hn5, cs5, hx5, hg5⟩, ⟨hn6, cs6, hx6, hg6⟩, -⟩ := hx
    clear hd
    have hV0 : (fun x _ => x = .agg #[.slice A0 n0 c0, .slice B0 l0 d0_]) (X 30) w2 := hv0; clear hv0; have hv0 := hV0; clear hV0; generalize X 30 = X30 at *
    have hV1 : (fun x _ => x = .agg #[.slice A1 n1 c1, .slice B1 l1 d1_]) (X 31) w2 := hv1; clear hv1; have hv1 := hV1; clear hV1; generalize X 31 = X31 at *
    have hx5' : Bx w2 (B 5) cs5 26 := hx5; clear hx5; generalize B 5 = b5 at *
    have hx6' : Bx w2 (B 6) cs6 26 := hx6; clear hx6; generalize B 6 = b6 at *
    have hn5' : w1.heap.size ≤ b5 := hn5; clear hn5
    have hn6' : w1.heap.size ≤ b6 := hn6; clear hn6
    obtain rfl := hv0
    obtain rfl := hv1
    obtain rfl := hg5
    obtain rfl := hg6
    have RC := Lib.hid (below_tr RB1.out hb); clear hb
    have FS0_2 := Lib.hid (FS0_1.out.below RC.out (Nat.le_refl _))
    have FT0_2 := Lib.hid (FT0_1.out.below RC.out (Nat.le_refl _))
    have FS1_2 := Lib.hid (FS1_1.out.below RC.out (Nat.le_refl _))
    have FT1_2 := Lib.hid (FT1_1.out.below RC.out (Nat.le_refl _))
    have FP_2 := Lib.hid (FP_1.out.below RC.out (Nat.le_refl _))
    have FQ_2 := Lib.hid (FQ_1.out.below RC.out (Nat.le_refl _))
    have HB2 := Lib.hid (HB1.out.trans (RC.out.mono HB1.out.size))
    clear HB1 FS0_1 FT0_1 FS1_1 FT1_1 FP_1 FQ_1 RC RB1
    have FB5 := Lib.hid hx5'; clear hx5'
    have FB6 := Lib.hid hx6'; clear hx6'
    cases hv : vB n0 l0
    · have HV := Lib.hid hv; clear hv
      go_wp2_with fail
      have RB2 := Lib.hid (below_drew0 w2)
      refine wp_region_held_drew (S := fun _ => True) (by kernel_rfl) trivial (fun _ => ?_)
      refine wpAnyH_gen [(⟨10, 14, 10, 26, #[.slice none 0 0, .slice none 0 0], []⟩, fun cs _ => cs = #[.slice none 0 0, .slice none 0 0])] [⟨0, 32, fun x _ => x = .agg #[.slice A0 n0 c0, .slice B0 l0 d0_]⟩, ⟨1, 33, fun x _ => x = .agg #[.slice A1 n1 c1, .slice B1 l1 d1_]⟩, ⟨2, 34, fun x _ => x = .slice none 0 0⟩, ⟨3, 35, fun x _ => x = .agg #[.slice A0 n0 c0, .slice B0 l0 d0_]⟩, ⟨4, 36, fun x _ => x = .agg #[.slice A1 n1 c1, .slice B1 l1 d1_]⟩, ⟨5, 37, fun x _ => x = .slice none 0 0⟩, ⟨6, 38, fun x _ => x = .agg #[.slice A0 n0 c0, .slice B0 l0 d0_]⟩, ⟨7, 39, fun x _ => x = .slice none 0 0⟩, ⟨8, 40, fun x _ => x = .agg #[.slice A0 n0 c0, .slice B0 l0 d0_]⟩, ⟨9, 41, fun x _ => x = .agg #[.slice none 0 0, .slice none 0 0]⟩, ⟨11, 7, fun x _ => x = .slice none 0 0⟩, ⟨12, 8, fun x _ => x = .slice none 0 0⟩, ⟨13, 9, fun x _ => x = .slice none 0 0⟩] (by kernel_rfl) (by kernel_rfl) (fun _ => trivial) ?_ ?_ ?_ ?_ ?_ ?_
      · refine ⟨?_, trivial⟩
        all_goals exact ⟨fun cs => by (dsimp only; repeat (first | exact Stay.const _ | exact Stay.sl _ _ _ _ | exact Stay.nm _ _ _ _ | exact Stay.bx _ _ _ _ | refine Stay.ex fun _ => ?_ | refine Stay.and ?_ ?_)), by dsimp only; decide, by simp [NoU]⟩
      · refine ⟨?_, ?_, ?_, ?_, ?_, ?_, ?_, ?_, ?_, ?_, ?_, ?_, ?_, trivial⟩
        all_goals (intro x; (dsimp only; repeat (first | exact Stay.const _ | exact Stay.sl _ _ _ _ | exact Stay.nm _ _ _ _ | exact Stay.bx _ _ _ _ | refine Stay.ex fun _ => ?_ | refine Stay.and ?_ ?_)))
      · refine ⟨?_, trivial⟩
        all_goals (intro a w K h; refine wpOp_step (by simp only [List.getElem?_toArray, List.getElem?_cons_succ, List.getElem?_cons_zero]; rfl) (fun K' hK => ?_); go_simp; exact hK _ _ h)
      · refine ⟨?_, trivial⟩
        · intro a w B K ht hd hs hb hK
          obtain ⟨x41, hx41, hp41⟩ := hd 9 _ rfl (by kernel_rfl)
          obtain rfl := hp41
          have es41 : a.tmps.getD 41 undef = _ := getD_of hx41; clear hx41
          clear ht hd
          have zc0 := hb.cell 0 (v := .slice none 0 0) rfl; have zf0 := hb.free 0
          have zc1 := hb.cell 1 (v := .slice none 0 0) rfl; have zf1 := hb.free 1
          have HK := Lib.hid (hK [.slice none 0 0, .slice none 0 0] rfl (by simp [NoU]) rfl); clear hK hb
          simp only [ptrTo] at hs
          have esB : a.tmps.getD 10 undef = _ := getD_of hs; clear hs
          refine wpOp_step (by simp only [List.getElem?_toArray, List.getElem?_cons_succ, List.getElem?_cons_zero]; rfl) (fun K' hK' => ?_)
          go_simp
          exact hK' _ _ HK.out
      · refine ⟨?_, ?_, ?_, ?_, ?_, ?_, ?_, ?_, ?_, ?_, ?_, ?_, ?_, trivial⟩
        · intro a w K hb ht hd hK
          have hbw := Lib.hid (below_tr RB2.out hb); clear hb
          have hx5 := (ht 5 rfl).trans rfl
          have es5 : a.tmps.getD 5 undef = _ := getD_of hx5; clear hx5
          clear ht hd
          have zc0 := (FB5.out.below hbw.out (Nat.le_refl _)).cell 0 (v := .slice A0 n0 c0) rfl
          have zc1 := (FB5.out.below hbw.out (Nat.le_refl _)).cell 1 (v := .slice B0 l0 d0_) rfl
          have HK := Lib.hid hK; clear hK
          refine wpOp_step (by simp only [List.getElem?_toArray, List.getElem?_cons_succ, List.getElem?_cons_zero]; rfl) (fun K' hK' => ?_)
          have HK' := Lib.hid hK'; clear hK'
          go_simp
          exact HK'.out _ _ (HK.out _ _ below_rf rfl)
        · intro a w K hb ht hd hK
          have hbw := Lib.hid (below_tr RB2.out hb); clear hb
          have hx6 := (ht 6 rfl).trans rfl
          have es6 : a.tmps.getD 6 undef = _ := getD_of hx6; clear hx6
          clear ht hd
          have zc0 := (FB6.out.below hbw.out (Nat.le_refl _)).cell 0 (v := .slice A1 n1 c1) rfl
          have zc1 := (FB6.out.below hbw.out (Nat.le_refl _)).cell 1 (v := .slice B1 l1 d1_) rfl
          have HK := Lib.hid hK; clear hK
          refine wpOp_step (by simp only [List.getElem?_toArray, List.getElem?_cons_succ, List.getElem?_cons_zero]; rfl) (fun K' hK' => ?_)
          have HK' := Lib.hid hK'; clear hK'
          go_simp
          exact HK'.out _ _ (HK.out _ _ below_rf rfl)
        · intro a w K hb ht hd hK
          have hbw := Lib.hid (below_tr RB2.out hb); clear hb
          obtain ⟨x32, hx32, hp32⟩ := hd 0 _ rfl (by kernel_rfl)
          obtain rfl := hp32
          have es32 : a.tmps.getD 32 undef = _ := getD_of hx32; clear hx32
          obtain ⟨x33, hx33, hp33⟩ := hd 1 _ rfl (by kernel_rfl)
          obtain rfl := hp33
          have es33 : a.tmps.getD 33 undef = _ := getD_of hx33; clear hx33
          clear ht hd
          have HK := Lib.hid hK; clear hK
          refine wpOp_step (by simp only [List.getElem?_toArray, List.getElem?_cons_succ, List.getElem?_cons_zero]; rfl) (fun K' hK' => ?_)
          have HK' := Lib.hid hK'; clear hK'
          go_simp
          refine (diff_Cross_no _ _ _ _ _ _ _ _ _ _ _ _ _ m0 p0 m1 p1 (by rw [HV.out]; rfl)).mono ?_
          rintro e w1 ⟨rfl, B⟩
          go_wp2_with fail
          exact HK'.out _ _ (HK.out _ _ B rfl)
        · intro a w K hb ht hd hK
          have hbw := Lib.hid (below_tr RB2.out hb); clear hb
          have hx5 := (ht 5 rfl).trans rfl
          have es5 : a.tmps.getD 5 undef = _ := getD_of hx5; clear hx5
          clear ht hd
          have zc0 := (FB5.out.below hbw.out (Nat.le_refl _)).cell 0 (v := .slice A0 n0 c0) rfl
          have zc1 := (FB5.out.below hbw.out (Nat.le_refl _)).cell 1 (v := .slice B0 l0 d0_) rfl
          have HK := Lib.hid hK; clear hK
          refine wpOp_step (by simp only [List.getElem?_toArray, List.getElem?_cons_succ, List.getElem?_cons_zero]; rfl) (fun K' hK' => ?_)
          have HK' := Lib.hid hK'; clear hK'
          go_simp
          exact HK'.out _ _ (HK.out _ _ below_rf rfl)
        · intro a w K hb ht hd hK
          have hbw := Lib.hid (below_tr RB2.out hb); clear hb
          have hx6 := (ht 6 rfl).trans rfl
          have es6 : a.tmps.getD 6 undef = _ := getD_of hx6; clear hx6
          clear ht hd
          have zc0 := (FB6.out.below hbw.out (Nat.le_refl _)).cell 0 (v := .slice A1 n1 c1) rfl
          have zc1 := (FB6.out.below hbw.out (Nat.le_refl _)).cell 1 (v := .slice B1 l1 d1_) rfl
          have HK := Lib.hid hK; clear hK
          refine wpOp_step (by simp only [List.getElem?_toArray, List.getElem?_cons_succ, List.getElem?_cons_zero]; rfl) (fun K' hK' => ?_)
          have HK' := Lib.hid hK'; clear hK'
          go_simp
          exact HK'.out _ _ (HK.out _ _ below_rf rfl)
        · intro a w K hb ht hd hK
          have hbw := Lib.hid (below_tr RB2.out hb); clear hb
          obtain ⟨x35, hx35, hp35⟩ := hd 3 _ rfl (by kernel_rfl)
          obtain rfl := hp35
          have es35 : a.tmps.getD 35 undef = _ := getD_of hx35; clear hx35
          obtain ⟨x36, hx36, hp36⟩ := hd 4 _ rfl (by kernel_rfl)
          obtain rfl := hp36
          have es36 : a.tmps.getD 36 undef = _ := getD_of hx36; clear hx36
          clear ht hd
          have HK := Lib.hid hK; clear hK
          refine wpOp_step (by simp only [List.getElem?_toArray, List.getElem?_cons_succ, List.getElem?_cons_zero]; rfl) (fun K' hK' => ?_)
          have HK' := Lib.hid hK'; clear hK'
          go_simp
          refine (diff_Dot_no _ _ _ _ _ _ _ _ _ _ _ _ _ m0 p0 m1 p1 (by rw [HV.out]; rfl)).mono ?_
          rintro e w1 ⟨rfl, B⟩
          go_wp2_with fail
          exact HK'.out _ _ (HK.out _ _ B rfl)
        · intro a w K hb ht hd hK
          have hbw := Lib.hid (below_tr RB2.out hb); clear hb
          have hx5 := (ht 5 rfl).trans rfl
          have es5 : a.tmps.getD 5 undef = _ := getD_of hx5; clear hx5
          clear ht hd
          have zc0 := (FB5.out.below hbw.out (Nat.le_refl _)).cell 0 (v := .slice A0 n0 c0) rfl
          have zc1 := (FB5.out.below hbw.out (Nat.le_refl _)).cell 1 (v := .slice B0 l0 d0_) rfl
          have HK := Lib.hid hK; clear hK
          refine wpOp_step (by simp only [List.getElem?_toArray, List.getElem?_cons_succ, List.getElem?_cons_zero]; rfl) (fun K' hK' => ?_)
          have HK' := Lib.hid hK'; clear hK'
          go_simp
          exact HK'.out _ _ (HK.out _ _ below_rf rfl)
        · intro a w K hb ht hd hK
          have hbw := Lib.hid (below_tr RB2.out hb); clear hb
          obtain ⟨x38, hx38, hp38⟩ := hd 6 _ rfl (by kernel_rfl)
          obtain rfl := hp38
          have es38 : a.tmps.getD 38 undef = _ := getD_of hx38; clear hx38
          clear ht hd
          have HK := Lib.hid hK; clear hK
          refine wpOp_step (by simp only [List.getElem?_toArray, List.getElem?_cons_succ, List.getElem?_cons_zero]; rfl) (fun K' hK' => ?_)
          have HK' := Lib.hid hK'; clear hK'
          go_simp
          refine (diff_Norm_no _ _ _ _ _ _ _ m0 p0 HV.out).mono ?_
          rintro e w1 ⟨rfl, B⟩
          go_wp2_with fail
          exact HK'.out _ _ (HK.out _ _ B rfl)
        · intro a w K hb ht hd hK
          have hbw := Lib.hid (below_tr RB2.out hb); clear hb
          have hx5 := (ht 5 rfl).trans rfl
          have es5 : a.tmps.getD 5 undef = _ := getD_of hx5; clear hx5
          clear ht hd
          have zc0 := (FB5.out.below hbw.out (Nat.le_refl _)).cell 0 (v := .slice A0 n0 c0) rfl
          have zc1 := (FB5.out.below hbw.out (Nat.le_refl _)).cell 1 (v := .slice B0 l0 d0_) rfl
          have HK := Lib.hid hK; clear hK
          refine wpOp_step (by simp only [List.getElem?_toArray, List.getElem?_cons_succ, List.getElem?_cons_zero]; rfl) (fun K' hK' => ?_)
          have HK' := Lib.hid hK'; clear hK'
          go_simp
          exact HK'.out _ _ (HK.out _ _ below_rf rfl)
        · intro a w K hb ht hd hK
          have hbw := Lib.hid (below_tr RB2.out hb); clear hb
          obtain ⟨x40, hx40, hp40⟩ := hd 8 _ rfl (by kernel_rfl)
          obtain rfl := hp40
          have es40 : a.tmps.getD 40 undef = _ := getD_of hx40; clear hx40
          clear ht hd
          have HK := Lib.hid hK; clear hK
          refine wpOp_step (by simp only [List.getElem?_toArray, List.getElem?_cons_succ, List.getElem?_cons_zero]; rfl) (fun K' hK' => ?_)
          have HK' := Lib.hid hK'; clear hK'
          go_simp
          refine (diff_Neg_no _ _ _ _ _ _ _ m0 p0 HV.out).mono ?_
          rintro e w1 ⟨rfl, B⟩
          go_wp2_with fail
          exact HK'.out _ _ (HK.out _ _ B rfl)
        · intro a w K hb ht hd hK
          have hbw := Lib.hid (below_tr RB2.out hb); clear hb
          obtain ⟨x34, hx34, hp34⟩ := hd 2 _ rfl (by kernel_rfl)
          obtain rfl := hp34
          have es34 : a.tmps.getD 34 undef = _ := getD_of hx34; clear hx34
          clear ht hd
          have HK := Lib.hid hK; clear hK
          refine wpOp_step (by simp only [List.getElem?_toArray, List.getElem?_cons_succ, List.getElem?_cons_zero]; rfl) (fun K' hK' => ?_)
          have HK' := Lib.hid hK'; clear hK'
          go_simp
          exact HK'.out _ _ (HK.out _ _ below_rf rfl)
        · intro a w K hb ht hd hK
          have hbw := Lib.hid (below_tr RB2.out hb); clear hb
          obtain ⟨x37, hx37, hp37⟩ := hd 5 _ rfl (by kernel_rfl)
          obtain rfl := hp37
          have es37 : a.tmps.getD 37 undef = _ := getD_of hx37; clear hx37
          clear ht hd
          have HK := Lib.hid hK; clear hK
          refine wpOp_step (by simp only [List.getElem?_toArray, List.getElem?_cons_succ, List.getElem?_cons_zero]; rfl) (fun K' hK' => ?_)
          have HK' := Lib.hid hK'; clear hK'
          go_simp
          exact HK'.out _ _ (HK.out _ _ below_rf rfl)
        · intro a w K hb ht hd hK
          have hbw := Lib.hid (below_tr RB2.out hb); clear hb
          obtain ⟨x39, hx39, hp39⟩ := hd 7 _ rfl (by kernel_rfl)
          obtain rfl := hp39
          have es39 : a.tmps.getD 39 undef = _ := getD_of hx39; clear hx39
          clear ht hd
          have HK := Lib.hid hK; clear hK
          refine wpOp_step (by simp only [List.getElem?_toArray, List.getElem?_cons_succ, List.getElem?_cons_zero]; rfl) (fun K' hK' => ?_)
          have HK' := Lib.hid hK'; clear hK'
          go_simp
          exact HK'.out _ _ (HK.out _ _ below_rf rfl)
      · intro w3 X B hb hv hx hd
        simp only [List.foldl_cons, List.foldl_nil, Act.put, List.setIfInBounds_toArray, List.set_cons_zero, List.set_cons_succ, ptrTo]
        obtain ⟨hv0, hv1, hv2, hv3, hv4, hv5, hv6, hv7, hv8, hv9, hv11, hv12, hv13, -⟩ := hv
        obtain ⟨⟨hn10, cs10, hx10, hg10⟩, -⟩ := hx
        clear hd
        have hV0 : (fun x _ => x = .agg #[.slice A0 n0 c0, .slice B0 l0 d0_]) (X 32) w3 := hv0; clear hv0; have hv0 := hV0; clear hV0; generalize X 32 = X32 at *
        have hV1 : (fun x _ => x = .agg #[.slice A1 n1 c1, .slice B1 l1 d1_]) (X 33) w3 := hv1; clear hv1; have hv1 := hV1; clear hV1; generalize X 33 = X33 at *
        have hV2 : (fun x _ => x = .slice none 0 0) (X 34) w3 := hv2; clear hv2; have hv2 := hV2; clear hV2; generalize X 34 = X34 at *
        have hV3 : (fun x _ => x = .agg #[.slice A0 n0 c0, .slice B0 l0 d0_]) (X 35) w3 := hv3; clear hv3; have hv3 := hV3; clear hV3; generalize X 35 = X35 at *
        have hV4 : (fun x _ => x = .agg #[.slice A1 n1 c1, .slice B1 l1 d1_]) (X 36) w3 := hv4; clear hv4; have hv4 := hV4; clear hV4; generalize X 36 = X36 at *
        have hV5 : (fun x _ => x = .slice none 0 0) (X 37) w3 := hv5; clear hv5; have hv5 := hV5; clear hV5; generalize X 37 = X37 at *
        have hV6 : (fun x _ => x = .agg #[.slice A0 n0 c0, .slice B0 l0 d0_]) (X 38) w3 := hv6; clear hv6; have hv6 := hV6; clear hV6; generalize X 38 = X38 at *
        have hV7 : (fun x _ => x = .slice none 0 0) (X 39) w3 := hv7; clear hv7; have hv7 := hV7; clear hV7; generalize X 39 = X39 at *
        have hV8 : (fun x _ => x = .agg #[.slice A0 n0 c0, .slice B0 l0 d0_]) (X 40) w3 := hv8; clear hv8; have hv8 := hV8; clear hV8; generalize X 40 = X40 at *
        have hV9 : (fun x _ => x = .agg #[.slice none 0 0, .slice none 0 0]) (X 41) w3 := hv9; clear hv9; have hv9 := hV9; clear hV9; generalize X 41 = X41 at *
        have hV11 : (fun x _ => x = .slice none 0 0) (X 7) w3 := hv11; clear hv11; have hv11 := hV11; clear hV11; generalize X 7 = X7 at *
        have hV12 : (fun x _ => x = .slice none 0 0) (X 8) w3 := hv12; clear hv12; have hv12 := hV12; clear hV12; generalize X 8 = X8 at *
        have hV13 : (fun x _ => x = .slice none 0 0) (X 9) w3 := hv13; clear hv13; have hv13 := hV13; clear hV13; generalize X 9 = X9 at *
        have hx10' : Bx w3 (B 10) cs10 26 := hx10; clear hx10; generalize B 10 = b10 at *
        have hn10' : w2.heap.size ≤ b10 := hn10; clear hn10
        obtain rfl := hv0
        obtain rfl := hv1
        obtain rfl := hv2
        obtain rfl := hv3
        obtain rfl := hv4
        obtain rfl := hv5
        obtain rfl := hv6
        obtain rfl := hv7
        obtain rfl := hv8
        obtain rfl := hv9
        obtain rfl := hv11
        obtain rfl := hv12
        obtain rfl := hv13
        obtain rfl := hg10
        have RC := Lib.hid (below_tr RB2.out hb); clear hb
        have FS0_3 := Lib.hid (FS0_2.out.below RC.out (Nat.le_refl _))
        have FT0_3 := Lib.hid (FT0_2.out.below RC.out (Nat.le_refl _))
        have FS1_3 := Lib.hid (FS1_2.out.below RC.out (Nat.le_refl _))
        have FT1_3 := Lib.hid (FT1_2.out.below RC.out (Nat.le_refl _))
        have FP_3 := Lib.hid (FP_2.out.below RC.out (Nat.le_refl _))
        have FQ_3 := Lib.hid (FQ_2.out.below RC.out (Nat.le_refl _))
        have FB5_3 := Lib.hid (FB5.out.below RC.out (Nat.le_refl _))
        have FB6_3 := Lib.hid (FB6.out.below RC.out (Nat.le_refl _))
        have HB3 := Lib.hid (HB2.out.trans (RC.out.mono HB2.out.size))
        clear HB2 FS0_2 FT0_2 FS1_2 FT1_2 FP_2 FQ_2 FB5 FB6 RC RB2
        have FB10 := Lib.hid hx10'; clear hx10'
        have vP0 := FP_3.out.cell 0 (v := .slice A0 n0 c0) rfl
        have vP1 := FP_3.out.cell 1 (v := .slice B0 l0 d0_) rfl
        go_wp2_with fail
        refine (law5_is _ _ n0 l0 _ _ _).mono ?_
        rintro e w4 ⟨rfl, B⟩
        clear vP0 vP1
        have HB4 := Lib.hid (HB3.out.trans (B.mono HB3.out.size))
        have FS0_4 := Lib.hid (FS0_3.out.below B (Nat.le_refl _))
        have FT0_4 := Lib.hid (FT0_3.out.below B (Nat.le_refl _))
        have FS1_4 := Lib.hid (FS1_3.out.below B (Nat.le_refl _))
        have FT1_4 := Lib.hid (FT1_3.out.below B (Nat.le_refl _))
        have FP_4 := Lib.hid (FP_3.out.below B (Nat.le_refl _))
        have FQ_4 := Lib.hid (FQ_3.out.below B (Nat.le_refl _))
        have FB5_4 := Lib.hid (FB5_3.out.below B (Nat.le_refl _))
        have FB6_4 := Lib.hid (FB6_3.out.below B (Nat.le_refl _))
        have FB10_4 := Lib.hid (FB10.out.below B (Nat.le_refl _))
        clear B  HB3 FS0_3 FT0_3 FS1_3 FT1_3 FP_3 FQ_3 FB5_3 FB6_3 FB10
        rw [HV.out]
        have vP0 := FP_4.out.cell 0 (v := .slice A0 n0 c0) rfl
        have vP1 := FP_4.out.cell 1 (v := .slice B0 l0 d0_) rfl
        go_wp2_with fail
        refine (alive5 _).mono ?_
        rintro e w5 ⟨rfl, B⟩
        clear vP0 vP1
        have HB5 := Lib.hid (HB4.out.trans (B.mono HB4.out.size))
        have FS0_5 := Lib.hid (FS0_4.out.below B (Nat.le_refl _))
        have FT0_5 := Lib.hid (FT0_4.out.below B (Nat.le_refl _))
        have FS1_5 := Lib.hid (FS1_4.out.below B (Nat.le_refl _))
        have FT1_5 := Lib.hid (FT1_4.out.below B (Nat.le_refl _))
        have FP_5 := Lib.hid (FP_4.out.below B (Nat.le_refl _))
        have FQ_5 := Lib.hid (FQ_4.out.below B (Nat.le_refl _))
        have FB5_5 := Lib.hid (FB5_4.out.below B (Nat.le_refl _))
        have FB6_5 := Lib.hid (FB6_4.out.below B (Nat.le_refl _))
        have FB10_5 := Lib.hid (FB10_4.out.below B (Nat.le_refl _))
        clear B  HB4 FS0_4 FT0_4 FS1_4 FT1_4 FP_4 FQ_4 FB5_4 FB6_4 FB10_4
        have vB100 := FB10_5.out.cell 0 (v := .slice none 0 0) rfl
        have vB101 := FB10_5.out.cell 1 (v := .slice none 0 0) rfl
        go_wp2_with fail
        go_ret
        exact ⟨rfl, HB5.out⟩
    obtain ⟨rfl, rfl⟩ := vB_true hv
    clear hv
    cases hw : vB n1 l1
    · have HW := Lib.hid hw; clear hw
      go_wp2_with fail
      have RB2 := Lib.hid (below_drew0 w2)
      refine wp_region_held_drew (S := fun _ => True) (by kernel_rfl) trivial (fun _ => ?_)
      refine wpAnyH_gen [(⟨10, 14, 10, 26, #[.slice none 0 0, .slice none 0 0], []⟩, fun cs w => ∃ (U : Option Addr) (u : Nat) (V : Option Addr) (v : Nat), cs = #[.slice U 2 u, .slice V 2 v] ∧ Sl w .u64 U 2 u (lmb (-x0)) ∧ Sl w .u64 V 2 v (lmb (-y0)))] [⟨0, 32, fun x _ => x = .agg #[.slice A0 2 c0, .slice B0 2 d0_]⟩, ⟨1, 33, fun x _ => x = .agg #[.slice A1 n1 c1, .slice B1 l1 d1_]⟩, ⟨2, 34, fun x _ => x = .slice none 0 0⟩, ⟨3, 35, fun x _ => x = .agg #[.slice A0 2 c0, .slice B0 2 d0_]⟩, ⟨4, 36, fun x _ => x = .agg #[.slice A1 n1 c1, .slice B1 l1 d1_]⟩, ⟨5, 37, fun x _ => x = .slice none 0 0⟩, ⟨6, 38, fun x _ => x = .agg #[.slice A0 2 c0, .slice B0 2 d0_]⟩, ⟨7, 39, fun x w => ∃ (A : Option Addr) (c : Nat), x = .slice A 4 c ∧ Sl w .u64 A 4 c (lmb ((x0) * (x0) + (y0) * (y0)))⟩, ⟨8, 40, fun x _ => x = .agg #[.slice A0 2 c0, .slice B0 2 d0_]⟩, ⟨9, 41, fun x w => ∃ (U : Option Addr) (u : Nat) (V : Option Addr) (v : Nat), x = .agg #[.slice U 2 u, .slice V 2 v] ∧ Sl w .u64 U 2 u (lmb (-x0)) ∧ Sl w .u64 V 2 v (lmb (-y0))⟩, ⟨11, 7, fun x _ => x = .slice none 0 0⟩, ⟨12, 8, fun x _ => x = .slice none 0 0⟩, ⟨13, 9, fun x w => ∃ (A : Option Addr) (c : Nat), x = .slice A 4 c ∧ Sl w .u64 A 4 c (lmb ((x0) * (x0) + (y0) * (y0)))⟩] (by kernel_rfl) (by kernel_rfl) (fun _ => trivial) ?_ ?_ ?_ ?_ ?_ ?_
      · refine ⟨?_, trivial⟩
        all_goals exact ⟨fun cs => by (dsimp only; repeat (first | exact Stay.const _ | exact Stay.sl _ _ _ _ | exact Stay.nm _ _ _ _ | exact Stay.bx _ _ _ _ | refine Stay.ex fun _ => ?_ | refine Stay.and ?_ ?_)), by dsimp only; decide, by simp [NoU]⟩
      · refine ⟨?_, ?_, ?_, ?_, ?_, ?_, ?_, ?_, ?_, ?_, ?_, ?_, ?_, trivial⟩
        all_goals (intro x; (dsimp only; repeat (first | exact Stay.const _ | exact Stay.sl _ _ _ _ | exact Stay.nm _ _ _ _ | exact Stay.bx _ _ _ _ | refine Stay.ex fun _ => ?_ | refine Stay.and ?_ ?_)))
      · refine ⟨?_, trivial⟩
        all_goals (intro a w K h; refine wpOp_step (by simp only [List.getElem?_toArray, List.getElem?_cons_succ, List.getElem?_cons_zero]; rfl) (fun K' hK => ?_); go_simp; exact hK _ _ h)
      · refine ⟨?_, trivial⟩
        · intro a w B K ht hd hs hb hK
          obtain ⟨x41, hx41, hp41⟩ := hd 9 _ rfl (by kernel_rfl)
          obtain ⟨U9, u9, V9, v9, rfl, S9, T9⟩ := hp41
          have es41 : a.tmps.getD 41 undef = _ := getD_of hx41; clear hx41
          clear ht hd
          have zc0 := hb.cell 0 (v := .slice none 0 0) rfl; have zf0 := hb.free 0
          have zc1 := hb.cell 1 (v := .slice none 0 0) rfl; have zf1 := hb.free 1
          have HK := Lib.hid (hK [.slice U9 2 u9, .slice V9 2 v9] rfl (by simp [NoU]) ⟨U9, u9, V9, v9, rfl, S9, T9⟩); clear hK hb
          simp only [ptrTo] at hs
          have esB : a.tmps.getD 10 undef = _ := getD_of hs; clear hs
          refine wpOp_step (by simp only [List.getElem?_toArray, List.getElem?_cons_succ, List.getElem?_cons_zero]; rfl) (fun K' hK' => ?_)
          go_simp
          exact hK' _ _ HK.out
      · refine ⟨?_, ?_, ?_, ?_, ?_, ?_, ?_, ?_, ?_, ?_, ?_, ?_, ?_, trivial⟩
        · intro a w K hb ht hd hK
          have hbw := Lib.hid (below_tr RB2.out hb); clear hb
          have hx5 := (ht 5 rfl).trans rfl
          have es5 : a.tmps.getD 5 undef = _ := getD_of hx5; clear hx5
          clear ht hd
          have zc0 := (FB5.out.below hbw.out (Nat.le_refl _)).cell 0 (v := .slice A0 2 c0) rfl
          have zc1 := (FB5.out.below hbw.out (Nat.le_refl _)).cell 1 (v := .slice B0 2 d0_) rfl
          have HK := Lib.hid hK; clear hK
          refine wpOp_step (by simp only [List.getElem?_toArray, List.getElem?_cons_succ, List.getElem?_cons_zero]; rfl) (fun K' hK' => ?_)
          have HK' := Lib.hid hK'; clear hK'
          go_simp
          exact HK'.out _ _ (HK.out _ _ below_rf rfl)
        · intro a w K hb ht hd hK
          have hbw := Lib.hid (below_tr RB2.out hb); clear hb
          have hx6 := (ht 6 rfl).trans rfl
          have es6 : a.tmps.getD 6 undef = _ := getD_of hx6; clear hx6
          clear ht hd
          have zc0 := (FB6.out.below hbw.out (Nat.le_refl _)).cell 0 (v := .slice A1 n1 c1) rfl
          have zc1 := (FB6.out.below hbw.out (Nat.le_refl _)).cell 1 (v := .slice B1 l1 d1_) rfl
          have HK := Lib.hid hK; clear hK
          refine wpOp_step (by simp only [List.getElem?_toArray, List.getElem?_cons_succ, List.getElem?_cons_zero]; rfl) (fun K' hK' => ?_)
          have HK' := Lib.hid hK'; clear hK'
          go_simp
          exact HK'.out _ _ (HK.out _ _ below_rf rfl)
        · intro a w K hb ht hd hK
          have hbw := Lib.hid (below_tr RB2.out hb); clear hb
          obtain ⟨x32, hx32, hp32⟩ := hd 0 _ rfl (by kernel_rfl)
          obtain rfl := hp32
          have es32 : a.tmps.getD 32 undef = _ := getD_of hx32; clear hx32
          obtain ⟨x33, hx33, hp33⟩ := hd 1 _ rfl (by kernel_rfl)
          obtain rfl := hp33
          have es33 : a.tmps.getD 33 undef = _ := getD_of hx33; clear hx33
          clear ht hd
          have HK := Lib.hid hK; clear hK
          refine wpOp_step (by simp only [List.getElem?_toArray, List.getElem?_cons_succ, List.getElem?_cons_zero]; rfl) (fun K' hK' => ?_)
          have HK' := Lib.hid hK'; clear hK'
          go_simp
          refine (diff_Cross_no _ _ _ _ _ _ _ _ _ _ _ _ _ m0 p0 m1 p1 (by rw [HW.out]; rfl)).mono ?_
          rintro e w1 ⟨rfl, B⟩
          go_wp2_with fail
          exact HK'.out _ _ (HK.out _ _ B rfl)
        · intro a w K hb ht hd hK
          have hbw := Lib.hid (below_tr RB2.out hb); clear hb
          have hx5 := (ht 5 rfl).trans rfl
          have es5 : a.tmps.getD 5 undef = _ := getD_of hx5; clear hx5
          clear ht hd
          have zc0 := (FB5.out.below hbw.out (Nat.le_refl _)).cell 0 (v := .slice A0 2 c0) rfl
          have zc1 := (FB5.out.below hbw.out (Nat.le_refl _)).cell 1 (v := .slice B0 2 d0_) rfl
          have HK := Lib.hid hK; clear hK
          refine wpOp_step (by simp only [List.getElem?_toArray, List.getElem?_cons_succ, List.getElem?_cons_zero]; rfl) (fun K' hK' => ?_)
          have HK' := Lib.hid hK'; clear hK'
          go_simp
          exact HK'.out _ _ (HK.out _ _ below_rf rfl)
        · intro a w K hb ht hd hK
          have hbw := Lib.hid (below_tr RB2.out hb); clear hb
          have hx6 := (ht 6 rfl).trans rfl
          have es6 : a.tmps.getD 6 undef = _ := getD_of hx6; clear hx6
          clear ht hd
          have zc0 := (FB6.out.below hbw.out (Nat.le_refl _)).cell 0 (v := .slice A1 n1 c1) rfl
          have zc1 := (FB6.out.below hbw.out (Nat.le_refl _)).cell 1 (v := .slice B1 l1 d1_) rfl
          have HK := Lib.hid hK; clear hK
          refine wpOp_step (by simp only [List.getElem?_toArray, List.getElem?_cons_succ, List.getElem?_cons_zero]; rfl) (fun K' hK' => ?_)
          have HK' := Lib.hid hK'; clear hK'
          go_simp
          exact HK'.out _ _ (HK.out _ _ below_rf rfl)
        · intro a w K hb ht hd hK
          have hbw := Lib.hid (below_tr RB2.out hb); clear hb
          obtain ⟨x35, hx35, hp35⟩ := hd 3 _ rfl (by kernel_rfl)
          obtain rfl := hp35
          have es35 : a.tmps.getD 35 undef = _ := getD_of hx35; clear hx35
          obtain ⟨x36, hx36, hp36⟩ := hd 4 _ rfl (by kernel_rfl)
          obtain rfl := hp36
          have es36 : a.tmps.getD 36 undef = _ := getD_of hx36; clear hx36
          clear ht hd
          have HK := Lib.hid hK; clear hK
          refine wpOp_step (by simp only [List.getElem?_toArray, List.getElem?_cons_succ, List.getElem?_cons_zero]; rfl) (fun K' hK' => ?_)
          have HK' := Lib.hid hK'; clear hK'
          go_simp
          refine (diff_Dot_no _ _ _ _ _ _ _ _ _ _ _ _ _ m0 p0 m1 p1 (by rw [HW.out]; rfl)).mono ?_
          rintro e w1 ⟨rfl, B⟩
          go_wp2_with fail
          exact HK'.out _ _ (HK.out _ _ B rfl)
        · intro a w K hb ht hd hK
          have hbw := Lib.hid (below_tr RB2.out hb); clear hb
          have hx5 := (ht 5 rfl).trans rfl
          have es5 : a.tmps.getD 5 undef = _ := getD_of hx5; clear hx5
          clear ht hd
          have zc0 := (FB5.out.below hbw.out (Nat.le_refl _)).cell 0 (v := .slice A0 2 c0) rfl
          have zc1 := (FB5.out.below hbw.out (Nat.le_refl _)).cell 1 (v := .slice B0 2 d0_) rfl
          have HK := Lib.hid hK; clear hK
          refine wpOp_step (by simp only [List.getElem?_toArray, List.getElem?_cons_succ, List.getElem?_cons_zero]; rfl) (fun K' hK' => ?_)
          have HK' := Lib.hid hK'; clear hK'
          go_simp
          exact HK'.out _ _ (HK.out _ _ below_rf rfl)
        · intro a w K hb ht hd hK
          have hbw := Lib.hid (below_tr RB2.out hb); clear hb
          obtain ⟨x38, hx38, hp38⟩ := hd 6 _ rfl (by kernel_rfl)
          obtain rfl := hp38
          have es38 : a.tmps.getD 38 undef = _ := getD_of hx38; clear hx38
          clear ht hd
          have HK := Lib.hid hK; clear hK
          refine wpOp_step (by simp only [List.getElem?_toArray, List.getElem?_cons_succ, List.getElem?_cons_zero]; rfl) (fun K' hK' => ?_)
          have HK' := Lib.hid hK'; clear hK'
          go_simp
          refine (diff_Norm _ _ _ _ _ _ _ (FS0_2.out.below hbw.out (Nat.le_refl _)) (FT0_2.out.below hbw.out (Nat.le_refl _)) HF0.out HG0.out).mono ?_
          rintro e w1 ⟨⟨A, c, rfl, S⟩, B⟩
          go_wp2_with fail
          exact HK'.out _ _ (HK.out _ _ B ⟨A, c, rfl, S⟩)
        · intro a w K hb ht hd hK
          have hbw := Lib.hid (below_tr RB2.out hb); clear hb
          have hx5 := (ht 5 rfl).trans rfl
          have es5 : a.tmps.getD 5 undef = _ := getD_of hx5; clear hx5
          clear ht hd
          have zc0 := (FB5.out.below hbw.out (Nat.le_refl _)).cell 0 (v := .slice A0 2 c0) rfl
          have zc1 := (FB5.out.below hbw.out (Nat.le_refl _)).cell 1 (v := .slice B0 2 d0_) rfl
          have HK := Lib.hid hK; clear hK
          refine wpOp_step (by simp only [List.getElem?_toArray, List.getElem?_cons_succ, List.getElem?_cons_zero]; rfl) (fun K' hK' => ?_)
          have HK' := Lib.hid hK'; clear hK'
          go_simp
          exact HK'.out _ _ (HK.out _ _ below_rf rfl)
        · intro a w K hb ht hd hK
          have hbw := Lib.hid (below_tr RB2.out hb); clear hb
          obtain ⟨x40, hx40, hp40⟩ := hd 8 _ rfl (by kernel_rfl)
          obtain rfl := hp40
          have es40 : a.tmps.getD 40 undef = _ := getD_of hx40; clear hx40
          clear ht hd
          have HK := Lib.hid hK; clear hK
          refine wpOp_step (by simp only [List.getElem?_toArray, List.getElem?_cons_succ, List.getElem?_cons_zero]; rfl) (fun K' hK' => ?_)
          have HK' := Lib.hid hK'; clear hK'
          go_simp
          refine (diff_Neg _ _ _ _ _ _ _ (FS0_2.out.below hbw.out (Nat.le_refl _)) (FT0_2.out.below hbw.out (Nat.le_refl _))).mono ?_
          rintro e w1 ⟨⟨U, u, V, v, rfl, S, T⟩, B⟩
          go_wp2_with fail
          exact HK'.out _ _ (HK.out _ _ B ⟨U, u, V, v, rfl, S, T⟩)
        · intro a w K hb ht hd hK
          have hbw := Lib.hid (below_tr RB2.out hb); clear hb
          obtain ⟨x34, hx34, hp34⟩ := hd 2 _ rfl (by kernel_rfl)
          obtain rfl := hp34
          have es34 : a.tmps.getD 34 undef = _ := getD_of hx34; clear hx34
          clear ht hd
          have HK := Lib.hid hK; clear hK
          refine wpOp_step (by simp only [List.getElem?_toArray, List.getElem?_cons_succ, List.getElem?_cons_zero]; rfl) (fun K' hK' => ?_)
          have HK' := Lib.hid hK'; clear hK'
          go_simp
          exact HK'.out _ _ (HK.out _ _ below_rf rfl)
        · intro a w K hb ht hd hK
          have hbw := Lib.hid (below_tr RB2.out hb); clear hb
          obtain ⟨x37, hx37, hp37⟩ := hd 5 _ rfl (by kernel_rfl)
          obtain rfl := hp37
          have es37 : a.tmps.getD 37 undef = _ := getD_of hx37; clear hx37
          clear ht hd
          have HK := Lib.hid hK; clear hK
          refine wpOp_step (by simp only [List.getElem?_toArray, List.getElem?_cons_succ, List.getElem?_cons_zero]; rfl) (fun K' hK' => ?_)
          have HK' := Lib.hid hK'; clear hK'
          go_simp
          exact HK'.out _ _ (HK.out _ _ below_rf rfl)
        · intro a w K hb ht hd hK
          have hbw := Lib.hid (below_tr RB2.out hb); clear hb
          obtain ⟨x39, hx39, hp39⟩ := hd 7 _ rfl (by kernel_rfl)
          obtain ⟨A7, c7, rfl, S7⟩ := hp39
          have es39 : a.tmps.getD 39 undef = _ := getD_of hx39; clear hx39
          clear ht hd
          have HK := Lib.hid hK; clear hK
          refine wpOp_step (by simp only [List.getElem?_toArray, List.getElem?_cons_succ, List.getElem?_cons_zero]; rfl) (fun K' hK' => ?_)
          have HK' := Lib.hid hK'; clear hK'
          go_simp
          exact HK'.out _ _ (HK.out _ _ below_rf ⟨A7, c7, rfl, S7⟩)
      · intro w3 X B hb hv hx hd
        simp only [List.foldl_cons, List.foldl_nil, Act.put, List.setIfInBounds_toArray, List.set_cons_zero, List.set_cons_succ, ptrTo]
        obtain ⟨hv0, hv1, hv2, hv3, hv4, hv5, hv6, hv7, hv8, hv9, hv11, hv12, hv13, -⟩ := hv
        obtain ⟨⟨hn10, cs10, hx10, hg10⟩, -⟩ := hx
        clear hd
        have hV0 : (fun x _ => x = .agg #[.slice A0 2 c0, .slice B0 2 d0_]) (X 32) w3 := hv0; clear hv0; have hv0 := hV0; clear hV0; generalize X 32 = X32 at *
        have hV1 : (fun x _ => x = .agg #[.slice A1 n1 c1, .slice B1 l1 d1_]) (X 33) w3 := hv1; clear hv1; have hv1 := hV1; clear hV1; generalize X 33 = X33 at *
        have hV2 : (fun x _ => x = .slice none 0 0) (X 34) w3 := hv2; clear hv2; have hv2 := hV2; clear hV2; generalize X 34 = X34 at *
        have hV3 : (fun x _ => x = .agg #[.slice A0 2 c0, .slice B0 2 d0_]) (X 35) w3 := hv3; clear hv3; have hv3 := hV3; clear hV3; generalize X 35 = X35 at *
        have hV4 : (fun x _ => x = .agg #[.slice A1 n1 c1, .slice B1 l1 d1_]) (X 36) w3 := hv4; clear hv4; have hv4 := hV4; clear hV4; generalize X 36 = X36 at *
        have hV5 : (fun x _ => x = .slice none 0 0) (X 37) w3 := hv5; clear hv5; have hv5 := hV5; clear hV5; generalize X 37 = X37 at *
        have hV6 : (fun x _ => x = .agg #[.slice A0 2 c0, .slice B0 2 d0_]) (X 38) w3 := hv6; clear hv6; have hv6 := hV6; clear hV6; generalize X 38 = X38 at *
        have hV7 : (fun x w => ∃ (A : Option Addr) (c : Nat), x = .slice A 4 c ∧ Sl w .u64 A 4 c (lmb ((x0) * (x0) + (y0) * (y0)))) (X 39) w3 := hv7; clear hv7; have hv7 := hV7; clear hV7; generalize X 39 = X39 at *
        have hV8 : (fun x _ => x = .agg #[.slice A0 2 c0, .slice B0 2 d0_]) (X 40) w3 := hv8; clear hv8; have hv8 := hV8; clear hV8; generalize X 40 = X40 at *
        have hV9 : (fun x w => ∃ (U : Option Addr) (u : Nat) (V : Option Addr) (v : Nat), x = .agg #[.slice U 2 u, .slice V 2 v] ∧ Sl w .u64 U 2 u (lmb (-x0)) ∧ Sl w .u64 V 2 v (lmb (-y0))) (X 41) w3 := hv9; clear hv9; have hv9 := hV9; clear hV9; generalize X 41 = X41 at *
        have hV11 : (fun x _ => x = .slice none 0 0) (X 7) w3 := hv11; clear hv11; have hv11 := hV11; clear hV11; generalize X 7 = X7 at *
        have hV12 : (fun x _ => x = .slice none 0 0) (X 8) w3 := hv12; clear hv12; have hv12 := hV12; clear hV12; generalize X 8 = X8 at *
        have hV13 : (fun x w => ∃ (A : Option Addr) (c : Nat), x = .slice A 4 c ∧ Sl w .u64 A 4 c (lmb ((x0) * (x0) + (y0) * (y0)))) (X 9) w3 := hv13; clear hv13; have hv13 := hV13; clear hV13; generalize X 9 = X9 at *
        have hx10' : Bx w3 (B 10) cs10 26 := hx10; clear hx10; generalize B 10 = b10 at *
        have hn10' : w2.heap.size ≤ b10 := hn10; clear hn10
        obtain rfl := hv0
        obtain rfl := hv1
        obtain rfl := hv2
        obtain rfl := hv3
        obtain rfl := hv4
        obtain rfl := hv5
        obtain rfl := hv6
        clear hv7
        obtain rfl := hv8
        clear hv9
        obtain rfl := hv11
        obtain rfl := hv12
        obtain ⟨A113, c113, rfl, S113⟩ := hv13
        obtain ⟨U10, u10, V10, v10, rfl, S10, T10⟩ := hg10
        have RC := Lib.hid (below_tr RB2.out hb); clear hb
        have FS0_3 := Lib.hid (FS0_2.out.below RC.out (Nat.le_refl _))
        have FT0_3 := Lib.hid (FT0_2.out.below RC.out (Nat.le_refl _))
        have FS1_3 := Lib.hid (FS1_2.out.below RC.out (Nat.le_refl _))
        have FT1_3 := Lib.hid (FT1_2.out.below RC.out (Nat.le_refl _))
        have FP_3 := Lib.hid (FP_2.out.below RC.out (Nat.le_refl _))
        have FQ_3 := Lib.hid (FQ_2.out.below RC.out (Nat.le_refl _))
        have FB5_3 := Lib.hid (FB5.out.below RC.out (Nat.le_refl _))
        have FB6_3 := Lib.hid (FB6.out.below RC.out (Nat.le_refl _))
        have HB3 := Lib.hid (HB2.out.trans (RC.out.mono HB2.out.size))
        clear HB2 FS0_2 FT0_2 FS1_2 FT1_2 FP_2 FQ_2 FB5 FB6 RC RB2
        have FB10 := Lib.hid hx10'; clear hx10'
        have FS10 := Lib.hid S10; clear S10
        have FT10 := Lib.hid T10; clear T10
        have FS113 := Lib.hid S113; clear S113
        have vP0 := FP_3.out.cell 0 (v := .slice A0 2 c0) rfl
        have vP1 := FP_3.out.cell 1 (v := .slice B0 2 d0_) rfl
        go_wp2_with fail
        refine (law5_is _ _ 2 2 _ _ _).mono ?_
        rintro e w4 ⟨rfl, B⟩
        clear vP0 vP1
        have HB4 := Lib.hid (HB3.out.trans (B.mono HB3.out.size))
        have FS0_4 := Lib.hid (FS0_3.out.below B (Nat.le_refl _))
        have FT0_4 := Lib.hid (FT0_3.out.below B (Nat.le_refl _))
        have FS1_4 := Lib.hid (FS1_3.out.below B (Nat.le_refl _))
        have FT1_4 := Lib.hid (FT1_3.out.below B (Nat.le_refl _))
        have FP_4 := Lib.hid (FP_3.out.below B (Nat.le_refl _))
        have FQ_4 := Lib.hid (FQ_3.out.below B (Nat.le_refl _))
        have FB5_4 := Lib.hid (FB5_3.out.below B (Nat.le_refl _))
        have FB6_4 := Lib.hid (FB6_3.out.below B (Nat.le_refl _))
        have FB10_4 := Lib.hid (FB10.out.below B (Nat.le_refl _))
        have FS10_4 := Lib.hid (FS10.out.below B (Nat.le_refl _))
        have FT10_4 := Lib.hid (FT10.out.below B (Nat.le_refl _))
        have FS113_4 := Lib.hid (FS113.out.below B (Nat.le_refl _))
        clear B  HB3 FS0_3 FT0_3 FS1_3 FT1_3 FP_3 FQ_3 FB5_3 FB6_3 FB10 FS10 FT10 FS113
        rw [show vB 2 2 = true from rfl]
        have vP0 := FP_4.out.cell 0 (v := .slice A0 2 c0) rfl
        have vP1 := FP_4.out.cell 1 (v := .slice B0 2 d0_) rfl
        go_wp2_with fail
        refine (law5_value _ _ 2 2 _ _ _ _ _ FS0_4.out FT0_4.out HF0.out HG0.out (by omega) (by omega)).mono ?_
        rintro e w5 ⟨⟨P11, p11, g11, Q11, q11, h11, rfl, ⟨e11, f11⟩, M11, N11⟩, B⟩
        clear vP0 vP1
        have HB5 := Lib.hid (HB4.out.trans (B.mono HB4.out.size))
        have FS0_5 := Lib.hid (FS0_4.out.below B (Nat.le_refl _))
        have FT0_5 := Lib.hid (FT0_4.out.below B (Nat.le_refl _))
        have FS1_5 := Lib.hid (FS1_4.out.below B (Nat.le_refl _))
        have FT1_5 := Lib.hid (FT1_4.out.below B (Nat.le_refl _))
        have FP_5 := Lib.hid (FP_4.out.below B (Nat.le_refl _))
        have FQ_5 := Lib.hid (FQ_4.out.below B (Nat.le_refl _))
        have FB5_5 := Lib.hid (FB5_4.out.below B (Nat.le_refl _))
        have FB6_5 := Lib.hid (FB6_4.out.below B (Nat.le_refl _))
        have FB10_5 := Lib.hid (FB10_4.out.below B (Nat.le_refl _))
        have FS10_5 := Lib.hid (FS10_4.out.below B (Nat.le_refl _))
        have FT10_5 := Lib.hid (FT10_4.out.below B (Nat.le_refl _))
        have FS113_5 := Lib.hid (FS113_4.out.below B (Nat.le_refl _))
        have FM11_5 := Lib.hid M11
        have FN11_5 := Lib.hid N11
        clear B M11 N11 HB4 FS0_4 FT0_4 FS1_4 FT1_4 FP_4 FQ_4 FB5_4 FB6_4 FB10_4 FS10_4 FT10_4 FS113_4
        go_upto_region 8 with (fail)
        have B : Below w.heap.size w (w5.alloc (.cells #[.int .i64 (sg (x0)), .slice P11 p11 g11, .int .i64 (sg (y0)), .slice Q11 q11 h11] 32)) := (HB5.out.alloc HB5.out.size _)
        have C : Below w5.heap.size w5 (w5.alloc (.cells #[.int .i64 (sg (x0)), .slice P11 p11 g11, .int .i64 (sg (y0)), .slice Q11 q11 h11] 32)) := ((Below.refl w5.heap.size w5).alloc (Nat.le_refl _) _)
        have X0 : Bx (w5.alloc (.cells #[.int .i64 (sg (x0)), .slice P11 p11 g11, .int .i64 (sg (y0)), .slice Q11 q11 h11] 32)) (w5.heap.size) #[.int .i64 (sg (x0)), .slice P11 p11 g11, .int .i64 (sg (y0)), .slice Q11 q11 h11] 32 := by simpa using (Bx.new w5 #[.int .i64 (sg (x0)), .slice P11 p11 g11, .int .i64 (sg (y0)), .slice Q11 q11 h11] 32)
        have FS0_6 := Lib.hid (FS0_5.out.below C (Nat.le_refl _))
        have FT0_6 := Lib.hid (FT0_5.out.below C (Nat.le_refl _))
        have FS1_6 := Lib.hid (FS1_5.out.below C (Nat.le_refl _))
        have FT1_6 := Lib.hid (FT1_5.out.below C (Nat.le_refl _))
        have FP_6 := Lib.hid (FP_5.out.below C (Nat.le_refl _))
        have FQ_6 := Lib.hid (FQ_5.out.below C (Nat.le_refl _))
        have FB5_6 := Lib.hid (FB5_5.out.below C (Nat.le_refl _))
        have FB6_6 := Lib.hid (FB6_5.out.below C (Nat.le_refl _))
        have FB10_6 := Lib.hid (FB10_5.out.below C (Nat.le_refl _))
        have FS10_6 := Lib.hid (FS10_5.out.below C (Nat.le_refl _))
        have FT10_6 := Lib.hid (FT10_5.out.below C (Nat.le_refl _))
        have FS113_6 := Lib.hid (FS113_5.out.below C (Nat.le_refl _))
        have FM11_6 := Lib.hid (FM11_5.out.below C (Nat.le_refl _))
        have FN11_6 := Lib.hid (FN11_5.out.below C (Nat.le_refl _))
        have HB6 := Lib.hid B
        have FB11_6 := Lib.hid X0
        clear B C X0 HB5 FS0_5 FT0_5 FS1_5 FT1_5 FP_5 FQ_5 FB5_5 FB6_5 FB10_5 FS10_5 FT10_5 FS113_5 FM11_5 FN11_5
        generalize (w5.alloc (.cells #[.int .i64 (sg (x0)), .slice P11 p11 g11, .int .i64 (sg (y0)), .slice Q11 q11 h11] 32)) = w6 at *
        have RB6 := Lib.hid (below_drew0 w6)
        refine wp_region_held_drew (S := fun _ => True) (by kernel_rfl) trivial (fun _ => ?_)
        refine wpAnyH_gen [] [⟨0, 67, fun x _ => x = .slice A113 4 c113⟩, ⟨1, 68, fun x _ => x = .agg #[.int .i64 (sg (x0)), .slice P11 p11 g11, .int .i64 (sg (y0)), .slice Q11 q11 h11]⟩, ⟨2, 69, fun x _ => x = .agg #[.int .i64 (sg (x0)), .slice P11 p11 g11, .int .i64 (sg (y0)), .slice Q11 q11 h11]⟩, ⟨3, 70, fun x w => ∃ (A : Option Addr) (n c : Nat), x = .agg #[.int .i64 (sg ((x0) * (x0) + (y0) * (y0))), .slice A n c] ∧ Nm w A n c ((x0) * (x0) + (y0) * (y0)) ∧ n ≤ 2 * 10 + 1⟩, ⟨4, 71, fun x _ => x = .bool true⟩, ⟨5, 72, fun x _ => x = .bool false⟩, ⟨6, 73, fun x _ => x = .bool false⟩, ⟨7, 74, fun x _ => x = .pointer (some ⟨b10, 0, none⟩)⟩, ⟨8, 75, fun x _ => x = .slice U10 2 u10⟩, ⟨9, 76, fun x _ => x = .pointer (some ⟨w5.heap.size, 0, none⟩)⟩, ⟨10, 77, fun x _ => x = .agg #[.int .i64 (sg (x0)), .slice P11 p11 g11]⟩, ⟨11, 78, fun x w => ∃ (A : Option Addr) (n c : Nat), x = .agg #[.int .i64 (sg (-x0)), .slice A n c] ∧ Nm w A n c (-x0) ∧ n ≤ 10⟩, ⟨12, 79, fun x _ => x = .bool true⟩, ⟨13, 80, fun x _ => x = .bool false⟩, ⟨14, 81, fun x _ => x = .bool false⟩, ⟨15, 82, fun x _ => x = .bool false⟩, ⟨16, 83, fun x _ => x = .pointer (some ⟨b10, 1, none⟩)⟩, ⟨17, 84, fun x _ => x = .slice V10 2 v10⟩, ⟨18, 85, fun x _ => x = .pointer (some ⟨w5.heap.size, 2, none⟩)⟩, ⟨19, 86, fun x _ => x = .agg #[.int .i64 (sg (y0)), .slice Q11 q11 h11]⟩, ⟨20, 87, fun x w => ∃ (A : Option Addr) (n c : Nat), x = .agg #[.int .i64 (sg (-y0)), .slice A n c] ∧ Nm w A n c (-y0) ∧ n ≤ 10⟩, ⟨21, 88, fun x _ => x = .bool true⟩, ⟨22, 89, fun x _ => x = .bool false⟩, ⟨23, 90, fun x _ => x = .bool false⟩] (by kernel_rfl) (by kernel_rfl) (fun _ => trivial) ?_ ?_ ?_ ?_ ?_ ?_
        · exact trivial
        · refine ⟨?_, ?_, ?_, ?_, ?_, ?_, ?_, ?_, ?_, ?_, ?_, ?_, ?_, ?_, ?_, ?_, ?_, ?_, ?_, ?_, ?_, ?_, ?_, ?_, trivial⟩
          all_goals (intro x; (dsimp only; repeat (first | exact Stay.const _ | exact Stay.sl _ _ _ _ | exact Stay.nm _ _ _ _ | exact Stay.bx _ _ _ _ | refine Stay.ex fun _ => ?_ | refine Stay.and ?_ ?_)))
        · exact trivial
        · exact trivial
        · refine ⟨?_, ?_, ?_, ?_, ?_, ?_, ?_, ?_, ?_, ?_, ?_, ?_, ?_, ?_, ?_, ?_, ?_, ?_, ?_, ?_, ?_, ?_, ?_, ?_, trivial⟩
          · intro a w K hb ht hd hK
            have hbw := Lib.hid (below_tr RB6.out hb); clear hb
            have hx9 := (ht 9 rfl).trans rfl
            have es9 : a.tmps.getD 9 undef = _ := getD_of hx9; clear hx9
            clear ht hd
            have HK := Lib.hid hK; clear hK
            refine wpOp_step (by simp only [List.getElem?_toArray, List.getElem?_cons_succ, List.getElem?_cons_zero]; rfl) (fun K' hK' => ?_)
            have HK' := Lib.hid hK'; clear hK'
            go_simp
            exact HK'.out _ _ (HK.out _ _ below_rf rfl)
          · intro a w K hb ht hd hK
            have hbw := Lib.hid (below_tr RB6.out hb); clear hb
            have hx11 := (ht 11 rfl).trans rfl
            have es11 : a.tmps.getD 11 undef = _ := getD_of hx11; clear hx11
            clear ht hd
            have zc0 := (FB11_6.out.below hbw.out (Nat.le_refl _)).cell 0 (v := .int .i64 (sg (x0))) rfl
            have zc1 := (FB11_6.out.below hbw.out (Nat.le_refl _)).cell 1 (v := .slice P11 p11 g11) rfl
            have zc2 := (FB11_6.out.below hbw.out (Nat.le_refl _)).cell 2 (v := .int .i64 (sg (y0))) rfl
            have zc3 := (FB11_6.out.below hbw.out (Nat.le_refl _)).cell 3 (v := .slice Q11 q11 h11) rfl
            have HK := Lib.hid hK; clear hK
            refine wpOp_step (by simp only [List.getElem?_toArray, List.getElem?_cons_succ, List.getElem?_cons_zero]; rfl) (fun K' hK' => ?_)
            have HK' := Lib.hid hK'; clear hK'
            go_simp
            exact HK'.out _ _ (HK.out _ _ below_rf rfl)
          · intro a w K hb ht hd hK
            have hbw := Lib.hid (below_tr RB6.out hb); clear hb
            have hx11 := (ht 11 rfl).trans rfl
            have es11 : a.tmps.getD 11 undef = _ := getD_of hx11; clear hx11
            clear ht hd
            have zc0 := (FB11_6.out.below hbw.out (Nat.le_refl _)).cell 0 (v := .int .i64 (sg (x0))) rfl
            have zc1 := (FB11_6.out.below hbw.out (Nat.le_refl _)).cell 1 (v := .slice P11 p11 g11) rfl
            have zc2 := (FB11_6.out.below hbw.out (Nat.le_refl _)).cell 2 (v := .int .i64 (sg (y0))) rfl
            have zc3 := (FB11_6.out.below hbw.out (Nat.le_refl _)).cell 3 (v := .slice Q11 q11 h11) rfl
            have HK := Lib.hid hK; clear hK
            refine wpOp_step (by simp only [List.getElem?_toArray, List.getElem?_cons_succ, List.getElem?_cons_zero]; rfl) (fun K' hK' => ?_)
            have HK' := Lib.hid hK'; clear hK'
            go_simp
            exact HK'.out _ _ (HK.out _ _ below_rf rfl)
          · intro a w K hb ht hd hK
            have hbw := Lib.hid (below_tr RB6.out hb); clear hb
            obtain ⟨x68, hx68, hp68⟩ := hd 1 _ rfl (by kernel_rfl)
            obtain rfl := hp68
            have es68 : a.tmps.getD 68 undef = _ := getD_of hx68; clear hx68
            obtain ⟨x69, hx69, hp69⟩ := hd 2 _ rfl (by kernel_rfl)
            obtain rfl := hp69
            have es69 : a.tmps.getD 69 undef = _ := getD_of hx69; clear hx69
            clear ht hd
            have HK := Lib.hid hK; clear hK
            refine wpOp_step (by simp only [List.getElem?_toArray, List.getElem?_cons_succ, List.getElem?_cons_zero]; rfl) (fun K' hK' => ?_)
            have HK' := Lib.hid hK'; clear hK'
            go_simp
            refine (ref5_Dot _ _ _ _ _ _ _ _ _ _ _ _ _ _ _ _ _ (FM11_6.out.below hbw.out (Nat.le_refl _)) (FN11_6.out.below hbw.out (Nat.le_refl _)) (FM11_6.out.below hbw.out (Nat.le_refl _)) (FN11_6.out.below hbw.out (Nat.le_refl _)) 10 (by omega) e11 f11 e11 f11).mono ?_
            rintro e w1 ⟨⟨A, n, c, rfl, b, S⟩, B⟩
            go_wp2_with fail
            exact HK'.out _ _ (HK.out _ _ B ⟨A, n, c, rfl, S, b⟩)
          · intro a w K hb ht hd hK
            have hbw := Lib.hid (below_tr RB6.out hb); clear hb
            obtain ⟨x67, hx67, hp67⟩ := hd 0 _ rfl (by kernel_rfl)
            obtain rfl := hp67
            have es67 : a.tmps.getD 67 undef = _ := getD_of hx67; clear hx67
            obtain ⟨x70, hx70, hp70⟩ := hd 3 _ rfl (by kernel_rfl)
            obtain ⟨A3, n3, c3, rfl, S3, b3⟩ := hp70
            have es70 : a.tmps.getD 70 undef = _ := getD_of hx70; clear hx70
            clear ht hd
            have HK := Lib.hid hK; clear hK
            refine wpOp_step (by simp only [List.getElem?_toArray, List.getElem?_cons_succ, List.getElem?_cons_zero]; rfl) (fun K' hK' => ?_)
            have HK' := Lib.hid hK'; clear hK'
            go_simp
            refine (law5_limbs _ _ 4 _ _ _ ((x0) * (x0) + (y0) * (y0)) ((x0) * (x0) + (y0) * (y0)) 4 rfl _ (FS113_6.out.below hbw.out (Nat.le_refl _)) S3 (fun _ _ => rfl) (by omega) (by omega)).mono ?_
            rintro e w1 ⟨rfl, B⟩
            go_wp2_with fail
            exact HK'.out _ _ (HK.out _ _ B rfl)
          · intro a w K hb ht hd hK
            have hbw := Lib.hid (below_tr RB6.out hb); clear hb
            obtain ⟨x71, hx71, hp71⟩ := hd 4 _ rfl (by kernel_rfl)
            obtain rfl := hp71
            have es71 : a.tmps.getD 71 undef = _ := getD_of hx71; clear hx71
            clear ht hd
            have HK := Lib.hid hK; clear hK
            refine wpOp_step (by simp only [List.getElem?_toArray, List.getElem?_cons_succ, List.getElem?_cons_zero]; rfl) (fun K' hK' => ?_)
            have HK' := Lib.hid hK'; clear hK'
            go_simp
            exact HK'.out _ _ (HK.out _ _ below_rf rfl)
          · intro a w K hb ht hd hK
            have hbw := Lib.hid (below_tr RB6.out hb); clear hb
            obtain ⟨x72, hx72, hp72⟩ := hd 5 _ rfl (by kernel_rfl)
            obtain rfl := hp72
            have es72 : a.tmps.getD 72 undef = _ := getD_of hx72; clear hx72
            clear ht hd
            have HK := Lib.hid hK; clear hK
            refine wpOp_step (by simp only [List.getElem?_toArray, List.getElem?_cons_succ, List.getElem?_cons_zero]; rfl) (fun K' hK' => ?_)
            have HK' := Lib.hid hK'; clear hK'
            go_simp
            exact HK'.out _ _ (HK.out _ _ below_rf rfl)
          · intro a w K hb ht hd hK
            have hbw := Lib.hid (below_tr RB6.out hb); clear hb
            have hx10 := (ht 10 rfl).trans rfl
            have es10 : a.tmps.getD 10 undef = _ := getD_of hx10; clear hx10
            obtain ⟨x73, hx73, hp73⟩ := hd 6 _ rfl (by kernel_rfl)
            obtain rfl := hp73
            have es73 : a.tmps.getD 73 undef = _ := getD_of hx73; have gs73 : a.tmps[73]? = some _ := hx73; clear hx73
            clear ht hd
            have HK := Lib.hid hK; clear hK
            refine wpOp_step (by simp only [List.getElem?_toArray, List.getElem?_cons_succ, List.getElem?_cons_zero]; rfl) (fun K' hK' => ?_)
            have HK' := Lib.hid hK'; clear hK'
            go_simp
            exact HK'.out _ _ (HK.out _ _ below_rf rfl)
          · intro a w K hb ht hd hK
            have hbw := Lib.hid (below_tr RB6.out hb); clear hb
            obtain ⟨x74, hx74, hp74⟩ := hd 7 _ rfl (by kernel_rfl)
            obtain rfl := hp74
            have es74 : a.tmps.getD 74 undef = _ := getD_of hx74; clear hx74
            obtain ⟨x73, hx73, hp73⟩ := hd 6 _ rfl (by kernel_rfl)
            obtain rfl := hp73
            have es73 : a.tmps.getD 73 undef = _ := getD_of hx73; have gs73 : a.tmps[73]? = some _ := hx73; clear hx73
            clear ht hd
            have zc0 := (FB10_6.out.below hbw.out (Nat.le_refl _)).cell 0 (v := .slice U10 2 u10) rfl
            have HK := Lib.hid hK; clear hK
            refine wpOp_step (by simp only [List.getElem?_toArray, List.getElem?_cons_succ, List.getElem?_cons_zero]; rfl) (fun K' hK' => ?_)
            have HK' := Lib.hid hK'; clear hK'
            go_simp
            exact HK'.out _ _ (HK.out _ _ below_rf rfl)
          · intro a w K hb ht hd hK
            have hbw := Lib.hid (below_tr RB6.out hb); clear hb
            have hx11 := (ht 11 rfl).trans rfl
            have es11 : a.tmps.getD 11 undef = _ := getD_of hx11; clear hx11
            obtain ⟨x73, hx73, hp73⟩ := hd 6 _ rfl (by kernel_rfl)
            obtain rfl := hp73
            have es73 : a.tmps.getD 73 undef = _ := getD_of hx73; have gs73 : a.tmps[73]? = some _ := hx73; clear hx73
            clear ht hd
            have HK := Lib.hid hK; clear hK
            refine wpOp_step (by simp only [List.getElem?_toArray, List.getElem?_cons_succ, List.getElem?_cons_zero]; rfl) (fun K' hK' => ?_)
            have HK' := Lib.hid hK'; clear hK'
            go_simp
            exact HK'.out _ _ (HK.out _ _ below_rf rfl)
          · intro a w K hb ht hd hK
            have hbw := Lib.hid (below_tr RB6.out hb); clear hb
            obtain ⟨x76, hx76, hp76⟩ := hd 9 _ rfl (by kernel_rfl)
            obtain rfl := hp76
            have es76 : a.tmps.getD 76 undef = _ := getD_of hx76; clear hx76
            obtain ⟨x73, hx73, hp73⟩ := hd 6 _ rfl (by kernel_rfl)
            obtain rfl := hp73
            have es73 : a.tmps.getD 73 undef = _ := getD_of hx73; have gs73 : a.tmps[73]? = some _ := hx73; clear hx73
            clear ht hd
            have zc0 := (FB11_6.out.below hbw.out (Nat.le_refl _)).cell 0 (v := .int .i64 (sg (x0))) rfl
            have zc1 := (FB11_6.out.below hbw.out (Nat.le_refl _)).cell 1 (v := .slice P11 p11 g11) rfl
            have HK := Lib.hid hK; clear hK
            refine wpOp_step (by simp only [List.getElem?_toArray, List.getElem?_cons_succ, List.getElem?_cons_zero]; rfl) (fun K' hK' => ?_)
            have HK' := Lib.hid hK'; clear hK'
            go_simp
            exact HK'.out _ _ (HK.out _ _ below_rf rfl)
          · intro a w K hb ht hd hK
            have hbw := Lib.hid (below_tr RB6.out hb); clear hb
            obtain ⟨x77, hx77, hp77⟩ := hd 10 _ rfl (by kernel_rfl)
            obtain rfl := hp77
            have es77 : a.tmps.getD 77 undef = _ := getD_of hx77; clear hx77
            obtain ⟨x73, hx73, hp73⟩ := hd 6 _ rfl (by kernel_rfl)
            obtain rfl := hp73
            have es73 : a.tmps.getD 73 undef = _ := getD_of hx73; have gs73 : a.tmps[73]? = some _ := hx73; clear hx73
            clear ht hd
            have HK := Lib.hid hK; clear hK
            refine wpOp_step (by simp only [List.getElem?_toArray, List.getElem?_cons_succ, List.getElem?_cons_zero]; rfl) (fun K' hK' => ?_)
            have HK' := Lib.hid hK'; clear hK'
            go_simp
            refine (ref3_Neg _ _ _ x0 _ (FM11_6.out.below hbw.out (Nat.le_refl _))).mono ?_
            rintro e w1 ⟨rfl, B⟩
            go_wp2_with fail
            exact HK'.out _ _ (HK.out _ _ B ⟨_, _, _, rfl, nm_neg ((FM11_6.out.below hbw.out (Nat.le_refl _)).below B (Nat.le_refl _)), by omega⟩)
          · intro a w K hb ht hd hK
            have hbw := Lib.hid (below_tr RB6.out hb); clear hb
            obtain ⟨x75, hx75, hp75⟩ := hd 8 _ rfl (by kernel_rfl)
            obtain rfl := hp75
            have es75 : a.tmps.getD 75 undef = _ := getD_of hx75; clear hx75
            obtain ⟨x78, hx78, hp78⟩ := hd 11 _ rfl (by kernel_rfl)
            obtain ⟨A11, n11, c11, rfl, S11, b11⟩ := hp78
            have es78 : a.tmps.getD 78 undef = _ := getD_of hx78; clear hx78
            obtain ⟨x73, hx73, hp73⟩ := hd 6 _ rfl (by kernel_rfl)
            obtain rfl := hp73
            have es73 : a.tmps.getD 73 undef = _ := getD_of hx73; have gs73 : a.tmps[73]? = some _ := hx73; clear hx73
            clear ht hd
            have HK := Lib.hid hK; clear hK
            refine wpOp_step (by simp only [List.getElem?_toArray, List.getElem?_cons_succ, List.getElem?_cons_zero]; rfl) (fun K' hK' => ?_)
            have HK' := Lib.hid hK'; clear hK'
            go_simp
            refine (law5_limbs _ _ 2 _ _ _ (-x0) (-x0) 2 rfl _ (FS10_6.out.below hbw.out (Nat.le_refl _)) S11 (fun _ _ => rfl) (by omega) (by omega)).mono ?_
            rintro e w1 ⟨rfl, B⟩
            go_wp2_with fail
            exact HK'.out _ _ (HK.out _ _ B rfl)
          · intro a w K hb ht hd hK
            have hbw := Lib.hid (below_tr RB6.out hb); clear hb
            obtain ⟨x79, hx79, hp79⟩ := hd 12 _ rfl (by kernel_rfl)
            obtain rfl := hp79
            have es79 : a.tmps.getD 79 undef = _ := getD_of hx79; clear hx79
            obtain ⟨x73, hx73, hp73⟩ := hd 6 _ rfl (by kernel_rfl)
            obtain rfl := hp73
            have es73 : a.tmps.getD 73 undef = _ := getD_of hx73; have gs73 : a.tmps[73]? = some _ := hx73; clear hx73
            clear ht hd
            have HK := Lib.hid hK; clear hK
            refine wpOp_step (by simp only [List.getElem?_toArray, List.getElem?_cons_succ, List.getElem?_cons_zero]; rfl) (fun K' hK' => ?_)
            have HK' := Lib.hid hK'; clear hK'
            go_simp
            exact HK'.out _ _ (HK.out _ _ below_rf rfl)
          · intro a w K hb ht hd hK
            have hbw := Lib.hid (below_tr RB6.out hb); clear hb
            obtain ⟨x73, hx73, hp73⟩ := hd 6 _ rfl (by kernel_rfl)
            obtain rfl := hp73
            have es73 : a.tmps.getD 73 undef = _ := getD_of hx73; clear hx73
            obtain ⟨x80, hx80, hp80⟩ := hd 13 _ rfl (by kernel_rfl)
            obtain rfl := hp80
            have es80 : a.tmps.getD 80 undef = _ := getD_of hx80; clear hx80
            clear ht hd
            have HK := Lib.hid hK; clear hK
            refine wpOp_step (by simp only [List.getElem?_toArray, List.getElem?_cons_succ, List.getElem?_cons_zero]; rfl) (fun K' hK' => ?_)
            have HK' := Lib.hid hK'; clear hK'
            go_simp
            exact HK'.out _ _ (HK.out _ _ below_rf rfl)
          · intro a w K hb ht hd hK
            have hbw := Lib.hid (below_tr RB6.out hb); clear hb
            obtain ⟨x81, hx81, hp81⟩ := hd 14 _ rfl (by kernel_rfl)
            obtain rfl := hp81
            have es81 : a.tmps.getD 81 undef = _ := getD_of hx81; clear hx81
            clear ht hd
            have HK := Lib.hid hK; clear hK
            refine wpOp_step (by simp only [List.getElem?_toArray, List.getElem?_cons_succ, List.getElem?_cons_zero]; rfl) (fun K' hK' => ?_)
            have HK' := Lib.hid hK'; clear hK'
            go_simp
            exact HK'.out _ _ (HK.out _ _ below_rf rfl)
          · intro a w K hb ht hd hK
            have hbw := Lib.hid (below_tr RB6.out hb); clear hb
            have hx10 := (ht 10 rfl).trans rfl
            have es10 : a.tmps.getD 10 undef = _ := getD_of hx10; clear hx10
            obtain ⟨x82, hx82, hp82⟩ := hd 15 _ rfl (by kernel_rfl)
            obtain rfl := hp82
            have es82 : a.tmps.getD 82 undef = _ := getD_of hx82; have gs82 : a.tmps[82]? = some _ := hx82; clear hx82
            clear ht hd
            have HK := Lib.hid hK; clear hK
            refine wpOp_step (by simp only [List.getElem?_toArray, List.getElem?_cons_succ, List.getElem?_cons_zero]; rfl) (fun K' hK' => ?_)
            have HK' := Lib.hid hK'; clear hK'
            go_simp
            exact HK'.out _ _ (HK.out _ _ below_rf rfl)
          · intro a w K hb ht hd hK
            have hbw := Lib.hid (below_tr RB6.out hb); clear hb
            obtain ⟨x83, hx83, hp83⟩ := hd 16 _ rfl (by kernel_rfl)
            obtain rfl := hp83
            have es83 : a.tmps.getD 83 undef = _ := getD_of hx83; clear hx83
            obtain ⟨x82, hx82, hp82⟩ := hd 15 _ rfl (by kernel_rfl)
            obtain rfl := hp82
            have es82 : a.tmps.getD 82 undef = _ := getD_of hx82; have gs82 : a.tmps[82]? = some _ := hx82; clear hx82
            clear ht hd
            have zc0 := (FB10_6.out.below hbw.out (Nat.le_refl _)).cell 1 (v := .slice V10 2 v10) rfl
            have HK := Lib.hid hK; clear hK
            refine wpOp_step (by simp only [List.getElem?_toArray, List.getElem?_cons_succ, List.getElem?_cons_zero]; rfl) (fun K' hK' => ?_)
            have HK' := Lib.hid hK'; clear hK'
            go_simp
            exact HK'.out _ _ (HK.out _ _ below_rf rfl)
          · intro a w K hb ht hd hK
            have hbw := Lib.hid (below_tr RB6.out hb); clear hb
            have hx11 := (ht 11 rfl).trans rfl
            have es11 : a.tmps.getD 11 undef = _ := getD_of hx11; clear hx11
            obtain ⟨x82, hx82, hp82⟩ := hd 15 _ rfl (by kernel_rfl)
            obtain rfl := hp82
            have es82 : a.tmps.getD 82 undef = _ := getD_of hx82; have gs82 : a.tmps[82]? = some _ := hx82; clear hx82
            clear ht hd
            have HK := Lib.hid hK; clear hK
            refine wpOp_step (by simp only [List.getElem?_toArray, List.getElem?_cons_succ, List.getElem?_cons_zero]; rfl) (fun K' hK' => ?_)
            have HK' := Lib.hid hK'; clear hK'
            go_simp
            exact HK'.out _ _ (HK.out _ _ below_rf rfl)
          · intro a w K hb ht hd hK
            have hbw := Lib.hid (below_tr RB6.out hb); clear hb
            obtain ⟨x85, hx85, hp85⟩ := hd 18 _ rfl (by kernel_rfl)
            obtain rfl := hp85
            have es85 : a.tmps.getD 85 undef = _ := getD_of hx85; clear hx85
            obtain ⟨x82, hx82, hp82⟩ := hd 15 _ rfl (by kernel_rfl)
            obtain rfl := hp82
            have es82 : a.tmps.getD 82 undef = _ := getD_of hx82; have gs82 : a.tmps[82]? = some _ := hx82; clear hx82
            clear ht hd
            have zc0 := (FB11_6.out.below hbw.out (Nat.le_refl _)).cell 2 (v := .int .i64 (sg (y0))) rfl
            have zc1 := (FB11_6.out.below hbw.out (Nat.le_refl _)).cell 3 (v := .slice Q11 q11 h11) rfl
            have HK := Lib.hid hK; clear hK
            refine wpOp_step (by simp only [List.getElem?_toArray, List.getElem?_cons_succ, List.getElem?_cons_zero]; rfl) (fun K' hK' => ?_)
            have HK' := Lib.hid hK'; clear hK'
            go_simp
            exact HK'.out _ _ (HK.out _ _ below_rf rfl)
          · intro a w K hb ht hd hK
            have hbw := Lib.hid (below_tr RB6.out hb); clear hb
            obtain ⟨x86, hx86, hp86⟩ := hd 19 _ rfl (by kernel_rfl)
            obtain rfl := hp86
            have es86 : a.tmps.getD 86 undef = _ := getD_of hx86; clear hx86
            obtain ⟨x82, hx82, hp82⟩ := hd 15 _ rfl (by kernel_rfl)
            obtain rfl := hp82
            have es82 : a.tmps.getD 82 undef = _ := getD_of hx82; have gs82 : a.tmps[82]? = some _ := hx82; clear hx82
            clear ht hd
            have HK := Lib.hid hK; clear hK
            refine wpOp_step (by simp only [List.getElem?_toArray, List.getElem?_cons_succ, List.getElem?_cons_zero]; rfl) (fun K' hK' => ?_)
            have HK' := Lib.hid hK'; clear hK'
            go_simp
            refine (ref3_Neg _ _ _ y0 _ (FN11_6.out.below hbw.out (Nat.le_refl _))).mono ?_
            rintro e w1 ⟨rfl, B⟩
            go_wp2_with fail
            exact HK'.out _ _ (HK.out _ _ B ⟨_, _, _, rfl, nm_neg ((FN11_6.out.below hbw.out (Nat.le_refl _)).below B (Nat.le_refl _)), by omega⟩)
          · intro a w K hb ht hd hK
            have hbw := Lib.hid (below_tr RB6.out hb); clear hb
            obtain ⟨x84, hx84, hp84⟩ := hd 17 _ rfl (by kernel_rfl)
            obtain rfl := hp84
            have es84 : a.tmps.getD 84 undef = _ := getD_of hx84; clear hx84
            obtain ⟨x87, hx87, hp87⟩ := hd 20 _ rfl (by kernel_rfl)
            obtain ⟨A20, n20, c20, rfl, S20, b20⟩ := hp87
            have es87 : a.tmps.getD 87 undef = _ := getD_of hx87; clear hx87
            obtain ⟨x82, hx82, hp82⟩ := hd 15 _ rfl (by kernel_rfl)
            obtain rfl := hp82
            have es82 : a.tmps.getD 82 undef = _ := getD_of hx82; have gs82 : a.tmps[82]? = some _ := hx82; clear hx82
            clear ht hd
            have HK := Lib.hid hK; clear hK
            refine wpOp_step (by simp only [List.getElem?_toArray, List.getElem?_cons_succ, List.getElem?_cons_zero]; rfl) (fun K' hK' => ?_)
            have HK' := Lib.hid hK'; clear hK'
            go_simp
            refine (law5_limbs _ _ 2 _ _ _ (-y0) (-y0) 2 rfl _ (FT10_6.out.below hbw.out (Nat.le_refl _)) S20 (fun _ _ => rfl) (by omega) (by omega)).mono ?_
            rintro e w1 ⟨rfl, B⟩
            go_wp2_with fail
            exact HK'.out _ _ (HK.out _ _ B rfl)
          · intro a w K hb ht hd hK
            have hbw := Lib.hid (below_tr RB6.out hb); clear hb
            obtain ⟨x88, hx88, hp88⟩ := hd 21 _ rfl (by kernel_rfl)
            obtain rfl := hp88
            have es88 : a.tmps.getD 88 undef = _ := getD_of hx88; clear hx88
            obtain ⟨x82, hx82, hp82⟩ := hd 15 _ rfl (by kernel_rfl)
            obtain rfl := hp82
            have es82 : a.tmps.getD 82 undef = _ := getD_of hx82; have gs82 : a.tmps[82]? = some _ := hx82; clear hx82
            clear ht hd
            have HK := Lib.hid hK; clear hK
            refine wpOp_step (by simp only [List.getElem?_toArray, List.getElem?_cons_succ, List.getElem?_cons_zero]; rfl) (fun K' hK' => ?_)
            have HK' := Lib.hid hK'; clear hK'
            go_simp
            exact HK'.out _ _ (HK.out _ _ below_rf rfl)
          · intro a w K hb ht hd hK
            have hbw := Lib.hid (below_tr RB6.out hb); clear hb
            obtain ⟨x82, hx82, hp82⟩ := hd 15 _ rfl (by kernel_rfl)
            obtain rfl := hp82
            have es82 : a.tmps.getD 82 undef = _ := getD_of hx82; clear hx82
            obtain ⟨x89, hx89, hp89⟩ := hd 22 _ rfl (by kernel_rfl)
            obtain rfl := hp89
            have es89 : a.tmps.getD 89 undef = _ := getD_of hx89; clear hx89
            clear ht hd
            have HK := Lib.hid hK; clear hK
            refine wpOp_step (by simp only [List.getElem?_toArray, List.getElem?_cons_succ, List.getElem?_cons_zero]; rfl) (fun K' hK' => ?_)
            have HK' := Lib.hid hK'; clear hK'
            go_simp
            exact HK'.out _ _ (HK.out _ _ below_rf rfl)
        · intro w7 X B hb hv hx hd
          simp only [List.foldl_cons, List.foldl_nil, Act.put, List.setIfInBounds_toArray, List.set_cons_zero, List.set_cons_succ, ptrTo]
          obtain ⟨hv0, hv1, hv2, hv3, hv4, hv5, hv6, hv7, hv8, hv9, hv10, hv11, hv12, hv13, hv14, hv15, hv16, hv17, hv18, hv19, hv20, hv21, hv22, hv23, -⟩ := hv
          clear hd
          have hV0 : (fun x _ => x = .slice A113 4 c113) (X 67) w7 := hv0; clear hv0; have hv0 := hV0; clear hV0; generalize X 67 = X67 at *
          have hV1 : (fun x _ => x = .agg #[.int .i64 (sg (x0)), .slice P11 p11 g11, .int .i64 (sg (y0)), .slice Q11 q11 h11]) (X 68) w7 := hv1; clear hv1; have hv1 := hV1; clear hV1; generalize X 68 = X68 at *
          have hV2 : (fun x _ => x = .agg #[.int .i64 (sg (x0)), .slice P11 p11 g11, .int .i64 (sg (y0)), .slice Q11 q11 h11]) (X 69) w7 := hv2; clear hv2; have hv2 := hV2; clear hV2; generalize X 69 = X69 at *
          have hV3 : (fun x w => ∃ (A : Option Addr) (n c : Nat), x = .agg #[.int .i64 (sg ((x0) * (x0) + (y0) * (y0))), .slice A n c] ∧ Nm w A n c ((x0) * (x0) + (y0) * (y0)) ∧ n ≤ 2 * 10 + 1) (X 70) w7 := hv3; clear hv3; have hv3 := hV3; clear hV3; generalize X 70 = X70 at *
          have hV4 : (fun x _ => x = .bool true) (X 71) w7 := hv4; clear hv4; have hv4 := hV4; clear hV4; generalize X 71 = X71 at *
          have hV5 : (fun x _ => x = .bool false) (X 72) w7 := hv5; clear hv5; have hv5 := hV5; clear hV5; generalize X 72 = X72 at *
          have hV6 : (fun x _ => x = .bool false) (X 73) w7 := hv6; clear hv6; have hv6 := hV6; clear hV6; generalize X 73 = X73 at *
          have hV7 : (fun x _ => x = .pointer (some ⟨b10, 0, none⟩)) (X 74) w7 := hv7; clear hv7; have hv7 := hV7; clear hV7; generalize X 74 = X74 at *
          have hV8 : (fun x _ => x = .slice U10 2 u10) (X 75) w7 := hv8; clear hv8; have hv8 := hV8; clear hV8; generalize X 75 = X75 at *
          have hV9 : (fun x _ => x = .pointer (some ⟨w5.heap.size, 0, none⟩)) (X 76) w7 := hv9; clear hv9; have hv9 := hV9; clear hV9; generalize X 76 = X76 at *
          have hV10 : (fun x _ => x = .agg #[.int .i64 (sg (x0)), .slice P11 p11 g11]) (X 77) w7 := hv10; clear hv10; have hv10 := hV10; clear hV10; generalize X 77 = X77 at *
          have hV11 : (fun x w => ∃ (A : Option Addr) (n c : Nat), x = .agg #[.int .i64 (sg (-x0)), .slice A n c] ∧ Nm w A n c (-x0) ∧ n ≤ 10) (X 78) w7 := hv11; clear hv11; have hv11 := hV11; clear hV11; generalize X 78 = X78 at *
          have hV12 : (fun x _ => x = .bool true) (X 79) w7 := hv12; clear hv12; have hv12 := hV12; clear hV12; generalize X 79 = X79 at *
          have hV13 : (fun x _ => x = .bool false) (X 80) w7 := hv13; clear hv13; have hv13 := hV13; clear hV13; generalize X 80 = X80 at *
          have hV14 : (fun x _ => x = .bool false) (X 81) w7 := hv14; clear hv14; have hv14 := hV14; clear hV14; generalize X 81 = X81 at *
          have hV15 : (fun x _ => x = .bool false) (X 82) w7 := hv15; clear hv15; have hv15 := hV15; clear hV15; generalize X 82 = X82 at *
          have hV16 : (fun x _ => x = .pointer (some ⟨b10, 1, none⟩)) (X 83) w7 := hv16; clear hv16; have hv16 := hV16; clear hV16; generalize X 83 = X83 at *
          have hV17 : (fun x _ => x = .slice V10 2 v10) (X 84) w7 := hv17; clear hv17; have hv17 := hV17; clear hV17; generalize X 84 = X84 at *
          have hV18 : (fun x _ => x = .pointer (some ⟨w5.heap.size, 2, none⟩)) (X 85) w7 := hv18; clear hv18; have hv18 := hV18; clear hV18; generalize X 85 = X85 at *
          have hV19 : (fun x _ => x = .agg #[.int .i64 (sg (y0)), .slice Q11 q11 h11]) (X 86) w7 := hv19; clear hv19; have hv19 := hV19; clear hV19; generalize X 86 = X86 at *
          have hV20 : (fun x w => ∃ (A : Option Addr) (n c : Nat), x = .agg #[.int .i64 (sg (-y0)), .slice A n c] ∧ Nm w A n c (-y0) ∧ n ≤ 10) (X 87) w7 := hv20; clear hv20; have hv20 := hV20; clear hV20; generalize X 87 = X87 at *
          have hV21 : (fun x _ => x = .bool true) (X 88) w7 := hv21; clear hv21; have hv21 := hV21; clear hV21; generalize X 88 = X88 at *
          have hV22 : (fun x _ => x = .bool false) (X 89) w7 := hv22; clear hv22; have hv22 := hV22; clear hV22; generalize X 89 = X89 at *
          have hV23 : (fun x _ => x = .bool false) (X 90) w7 := hv23; clear hv23; have hv23 := hV23; clear hV23; generalize X 90 = X90 at *
          obtain rfl := hv0
          obtain rfl := hv1
          obtain rfl := hv2
          clear hv3
          obtain rfl := hv4
          obtain rfl := hv5
          obtain rfl := hv6
          obtain rfl := hv7
          obtain rfl := hv8
          obtain rfl := hv9
          obtain rfl := hv10
          clear hv11
          obtain rfl := hv12
          obtain rfl := hv13
          obtain rfl := hv14
          obtain rfl := hv15
          obtain rfl := hv16
          obtain rfl := hv17
          obtain rfl := hv18
          obtain rfl := hv19
          clear hv20
          obtain rfl := hv21
          obtain rfl := hv22
          obtain rfl := hv23
          have RC := Lib.hid (below_tr RB6.out hb); clear hb
          have FS0_7 := Lib.hid (FS0_6.out.below RC.out (Nat.le_refl _))
          have FT0_7 := Lib.hid (FT0_6.out.below RC.out (Nat.le_refl _))
          have FS1_7 := Lib.hid (FS1_6.out.below RC.out (Nat.le_refl _))
          have FT1_7 := Lib.hid (FT1_6.out.below RC.out (Nat.le_refl _))
          have FP_7 := Lib.hid (FP_6.out.below RC.out (Nat.le_refl _))
          have FQ_7 := Lib.hid (FQ_6.out.below RC.out (Nat.le_refl _))
          have FB5_7 := Lib.hid (FB5_6.out.below RC.out (Nat.le_refl _))
          have FB6_7 := Lib.hid (FB6_6.out.below RC.out (Nat.le_refl _))
          have FB10_7 := Lib.hid (FB10_6.out.below RC.out (Nat.le_refl _))
          have FS10_7 := Lib.hid (FS10_6.out.below RC.out (Nat.le_refl _))
          have FT10_7 := Lib.hid (FT10_6.out.below RC.out (Nat.le_refl _))
          have FS113_7 := Lib.hid (FS113_6.out.below RC.out (Nat.le_refl _))
          have FM11_7 := Lib.hid (FM11_6.out.below RC.out (Nat.le_refl _))
          have FN11_7 := Lib.hid (FN11_6.out.below RC.out (Nat.le_refl _))
          have FB11_7 := Lib.hid (FB11_6.out.below RC.out (Nat.le_refl _))
          have HB7 := Lib.hid (HB6.out.trans (RC.out.mono HB6.out.size))
          clear HB6 FS0_6 FT0_6 FS1_6 FT1_6 FP_6 FQ_6 FB5_6 FB6_6 FB10_6 FS10_6 FT10_6 FS113_6 FM11_6 FN11_6 FB11_6 RC RB6
          have vQ0 := FQ_7.out.cell 0 (v := .slice A1 n1 c1) rfl
          have vQ1 := FQ_7.out.cell 1 (v := .slice B1 l1 d1_) rfl
          go_wp2_with fail
          refine (law5_is _ _ n1 l1 _ _ _).mono ?_
          rintro e w8 ⟨rfl, B⟩
          clear vQ0 vQ1
          have HB8 := Lib.hid (HB7.out.trans (B.mono HB7.out.size))
          have FS0_8 := Lib.hid (FS0_7.out.below B (Nat.le_refl _))
          have FT0_8 := Lib.hid (FT0_7.out.below B (Nat.le_refl _))
          have FS1_8 := Lib.hid (FS1_7.out.below B (Nat.le_refl _))
          have FT1_8 := Lib.hid (FT1_7.out.below B (Nat.le_refl _))
          have FP_8 := Lib.hid (FP_7.out.below B (Nat.le_refl _))
          have FQ_8 := Lib.hid (FQ_7.out.below B (Nat.le_refl _))
          have FB5_8 := Lib.hid (FB5_7.out.below B (Nat.le_refl _))
          have FB6_8 := Lib.hid (FB6_7.out.below B (Nat.le_refl _))
          have FB10_8 := Lib.hid (FB10_7.out.below B (Nat.le_refl _))
          have FS10_8 := Lib.hid (FS10_7.out.below B (Nat.le_refl _))
          have FT10_8 := Lib.hid (FT10_7.out.below B (Nat.le_refl _))
          have FS113_8 := Lib.hid (FS113_7.out.below B (Nat.le_refl _))
          have FM11_8 := Lib.hid (FM11_7.out.below B (Nat.le_refl _))
          have FN11_8 := Lib.hid (FN11_7.out.below B (Nat.le_refl _))
          have FB11_8 := Lib.hid (FB11_7.out.below B (Nat.le_refl _))
          clear B  HB7 FS0_7 FT0_7 FS1_7 FT1_7 FP_7 FQ_7 FB5_7 FB6_7 FB10_7 FS10_7 FT10_7 FS113_7 FM11_7 FN11_7 FB11_7
          rw [HW.out]
          go_wp2_with fail
          refine (alive5 _).mono ?_
          rintro e w9 ⟨rfl, B⟩
          have HB9 := Lib.hid (HB8.out.trans (B.mono HB8.out.size))
          have FS0_9 := Lib.hid (FS0_8.out.below B (Nat.le_refl _))
          have FT0_9 := Lib.hid (FT0_8.out.below B (Nat.le_refl _))
          have FS1_9 := Lib.hid (FS1_8.out.below B (Nat.le_refl _))
          have FT1_9 := Lib.hid (FT1_8.out.below B (Nat.le_refl _))
          have FP_9 := Lib.hid (FP_8.out.below B (Nat.le_refl _))
          have FQ_9 := Lib.hid (FQ_8.out.below B (Nat.le_refl _))
          have FB5_9 := Lib.hid (FB5_8.out.below B (Nat.le_refl _))
          have FB6_9 := Lib.hid (FB6_8.out.below B (Nat.le_refl _))
          have FB10_9 := Lib.hid (FB10_8.out.below B (Nat.le_refl _))
          have FS10_9 := Lib.hid (FS10_8.out.below B (Nat.le_refl _))
          have FT10_9 := Lib.hid (FT10_8.out.below B (Nat.le_refl _))
          have FS113_9 := Lib.hid (FS113_8.out.below B (Nat.le_refl _))
          have FM11_9 := Lib.hid (FM11_8.out.below B (Nat.le_refl _))
          have FN11_9 := Lib.hid (FN11_8.out.below B (Nat.le_refl _))
          have FB11_9 := Lib.hid (FB11_8.out.below B (Nat.le_refl _))
          clear B  HB8 FS0_8 FT0_8 FS1_8 FT1_8 FP_8 FQ_8 FB5_8 FB6_8 FB10_8 FS10_8 FT10_8 FS113_8 FM11_8 FN11_8 FB11_8
          go_wp2_with fail
          go_ret
          exact ⟨rfl, HB9.out⟩
    · have HW := Lib.hid hw; clear hw
      obtain ⟨rfl, rfl⟩ := vB_true HW.out
      go_wp2_with fail
      have RB2 := Lib.hid (below_drew0 w2)
      refine wp_region_held_drew (S := fun _ => True) (by kernel_rfl) trivial (fun _ => ?_)
      refine wpAnyH_gen [(⟨10, 14, 10, 26, #[.slice none 0 0, .slice none 0 0], []⟩, fun cs w => ∃ (U : Option Addr) (u : Nat) (V : Option Addr) (v : Nat), cs = #[.slice U 2 u, .slice V 2 v] ∧ Sl w .u64 U 2 u (lmb (-x0)) ∧ Sl w .u64 V 2 v (lmb (-y0)))] [⟨0, 32, fun x _ => x = .agg #[.slice A0 2 c0, .slice B0 2 d0_]⟩, ⟨1, 33, fun x _ => x = .agg #[.slice A1 2 c1, .slice B1 2 d1_]⟩, ⟨2, 34, fun x w => ∃ (A : Option Addr) (c : Nat), x = .slice A 4 c ∧ Sl w .u64 A 4 c (lmb ((x0) * (y1) - (y0) * (x1)))⟩, ⟨3, 35, fun x _ => x = .agg #[.slice A0 2 c0, .slice B0 2 d0_]⟩, ⟨4, 36, fun x _ => x = .agg #[.slice A1 2 c1, .slice B1 2 d1_]⟩, ⟨5, 37, fun x w => ∃ (A : Option Addr) (c : Nat), x = .slice A 4 c ∧ Sl w .u64 A 4 c (lmb ((x0) * (x1) + (y0) * (y1)))⟩, ⟨6, 38, fun x _ => x = .agg #[.slice A0 2 c0, .slice B0 2 d0_]⟩, ⟨7, 39, fun x w => ∃ (A : Option Addr) (c : Nat), x = .slice A 4 c ∧ Sl w .u64 A 4 c (lmb ((x0) * (x0) + (y0) * (y0)))⟩, ⟨8, 40, fun x _ => x = .agg #[.slice A0 2 c0, .slice B0 2 d0_]⟩, ⟨9, 41, fun x w => ∃ (U : Option Addr) (u : Nat) (V : Option Addr) (v : Nat), x = .agg #[.slice U 2 u, .slice V 2 v] ∧ Sl w .u64 U 2 u (lmb (-x0)) ∧ Sl w .u64 V 2 v (lmb (-y0))⟩, ⟨11, 7, fun x w => ∃ (A : Option Addr) (c : Nat), x = .slice A 4 c ∧ Sl w .u64 A 4 c (lmb ((x0) * (y1) - (y0) * (x1)))⟩, ⟨12, 8, fun x w => ∃ (A : Option Addr) (c : Nat), x = .slice A 4 c ∧ Sl w .u64 A 4 c (lmb ((x0) * (x1) + (y0) * (y1)))⟩, ⟨13, 9, fun x w => ∃ (A : Option Addr) (c : Nat), x = .slice A 4 c ∧ Sl w .u64 A 4 c (lmb ((x0) * (x0) + (y0) * (y0)))⟩] (by kernel_rfl) (by kernel_rfl) (fun _ => trivial) ?_ ?_ ?_ ?_ ?_ ?_
      · refine ⟨?_, trivial⟩
        all_goals exact ⟨fun cs => by (dsimp only; repeat (first | exact Stay.const _ | exact Stay.sl _ _ _ _ | exact Stay.nm _ _ _ _ | exact Stay.bx _ _ _ _ | refine Stay.ex fun _ => ?_ | refine Stay.and ?_ ?_)), by dsimp only; decide, by simp [NoU]⟩
      · refine ⟨?_, ?_, ?_, ?_, ?_, ?_, ?_, ?_, ?_, ?_, ?_, ?_, ?_, trivial⟩
        all_goals (intro x; (dsimp only; repeat (first | exact Stay.const _ | exact Stay.sl _ _ _ _ | exact Stay.nm _ _ _ _ | exact Stay.bx _ _ _ _ | refine Stay.ex fun _ => ?_ | refine Stay.and ?_ ?_)))
      · refine ⟨?_, trivial⟩
        all_goals (intro a w K h; refine wpOp_step (by simp only [List.getElem?_toArray, List.getElem?_cons_succ, List.getElem?_cons_zero]; rfl) (fun K' hK => ?_); go_simp; exact hK _ _ h)
      · refine ⟨?_, trivial⟩
        · intro a w B K ht hd hs hb hK
          obtain ⟨x41, hx41, hp41⟩ := hd 9 _ rfl (by kernel_rfl)
          obtain ⟨U9, u9, V9, v9, rfl, S9, T9⟩ := hp41
          have es41 : a.tmps.getD 41 undef = _ := getD_of hx41; clear hx41
          clear ht hd
          have zc0 := hb.cell 0 (v := .slice none 0 0) rfl; have zf0 := hb.free 0
          have zc1 := hb.cell 1 (v := .slice none 0 0) rfl; have zf1 := hb.free 1
          have HK := Lib.hid (hK [.slice U9 2 u9, .slice V9 2 v9] rfl (by simp [NoU]) ⟨U9, u9, V9, v9, rfl, S9, T9⟩); clear hK hb
          simp only [ptrTo] at hs
          have esB : a.tmps.getD 10 undef = _ := getD_of hs; clear hs
          refine wpOp_step (by simp only [List.getElem?_toArray, List.getElem?_cons_succ, List.getElem?_cons_zero]; rfl) (fun K' hK' => ?_)
          go_simp
          exact hK' _ _ HK.out
      · refine ⟨?_, ?_, ?_, ?_, ?_, ?_, ?_, ?_, ?_, ?_, ?_, ?_, ?_, trivial⟩
        · intro a w K hb ht hd hK
          have hbw := Lib.hid (below_tr RB2.out hb); clear hb
          have hx5 := (ht 5 rfl).trans rfl
          have es5 : a.tmps.getD 5 undef = _ := getD_of hx5; clear hx5
          clear ht hd
          have zc0 := (FB5.out.below hbw.out (Nat.le_refl _)).cell 0 (v := .slice A0 2 c0) rfl
          have zc1 := (FB5.out.below hbw.out (Nat.le_refl _)).cell 1 (v := .slice B0 2 d0_) rfl
          have HK := Lib.hid hK; clear hK
          refine wpOp_step (by simp only [List.getElem?_toArray, List.getElem?_cons_succ, List.getElem?_cons_zero]; rfl) (fun K' hK' => ?_)
          have HK' := Lib.hid hK'; clear hK'
          go_simp
          exact HK'.out _ _ (HK.out _ _ below_rf rfl)
        · intro a w K hb ht hd hK
          have hbw := Lib.hid (below_tr RB2.out hb); clear hb
          have hx6 := (ht 6 rfl).trans rfl
          have es6 : a.tmps.getD 6 undef = _ := getD_of hx6; clear hx6
          clear ht hd
          have zc0 := (FB6.out.below hbw.out (Nat.le_refl _)).cell 0 (v := .slice A1 2 c1) rfl
          have zc1 := (FB6.out.below hbw.out (Nat.le_refl _)).cell 1 (v := .slice B1 2 d1_) rfl
          have HK := Lib.hid hK; clear hK
          refine wpOp_step (by simp only [List.getElem?_toArray, List.getElem?_cons_succ, List.getElem?_cons_zero]; rfl) (fun K' hK' => ?_)
          have HK' := Lib.hid hK'; clear hK'
          go_simp
          exact HK'.out _ _ (HK.out _ _ below_rf rfl)
        · intro a w K hb ht hd hK
          have hbw := Lib.hid (below_tr RB2.out hb); clear hb
          obtain ⟨x32, hx32, hp32⟩ := hd 0 _ rfl (by kernel_rfl)
          obtain rfl := hp32
          have es32 : a.tmps.getD 32 undef = _ := getD_of hx32; clear hx32
          obtain ⟨x33, hx33, hp33⟩ := hd 1 _ rfl (by kernel_rfl)
          obtain rfl := hp33
          have es33 : a.tmps.getD 33 undef = _ := getD_of hx33; clear hx33
          clear ht hd
          have HK := Lib.hid hK; clear hK
          refine wpOp_step (by simp only [List.getElem?_toArray, List.getElem?_cons_succ, List.getElem?_cons_zero]; rfl) (fun K' hK' => ?_)
          have HK' := Lib.hid hK'; clear hK'
          go_simp
          refine (diff_Cross _ _ _ _ _ _ _ _ _ _ _ _ _ (FS0_2.out.below hbw.out (Nat.le_refl _)) (FT0_2.out.below hbw.out (Nat.le_refl _)) (FS1_2.out.below hbw.out (Nat.le_refl _)) (FT1_2.out.below hbw.out (Nat.le_refl _)) HF0.out HG0.out HF1.out HG1.out).mono ?_
          rintro e w1 ⟨⟨A, c, rfl, S⟩, B⟩
          go_wp2_with fail
          exact HK'.out _ _ (HK.out _ _ B ⟨A, c, rfl, S⟩)
        · intro a w K hb ht hd hK
          have hbw := Lib.hid (below_tr RB2.out hb); clear hb
          have hx5 := (ht 5 rfl).trans rfl
          have es5 : a.tmps.getD 5 undef = _ := getD_of hx5; clear hx5
          clear ht hd
          have zc0 := (FB5.out.below hbw.out (Nat.le_refl _)).cell 0 (v := .slice A0 2 c0) rfl
          have zc1 := (FB5.out.below hbw.out (Nat.le_refl _)).cell 1 (v := .slice B0 2 d0_) rfl
          have HK := Lib.hid hK; clear hK
          refine wpOp_step (by simp only [List.getElem?_toArray, List.getElem?_cons_succ, List.getElem?_cons_zero]; rfl) (fun K' hK' => ?_)
          have HK' := Lib.hid hK'; clear hK'
          go_simp
          exact HK'.out _ _ (HK.out _ _ below_rf rfl)
        · intro a w K hb ht hd hK
          have hbw := Lib.hid (below_tr RB2.out hb); clear hb
          have hx6 := (ht 6 rfl).trans rfl
          have es6 : a.tmps.getD 6 undef = _ := getD_of hx6; clear hx6
          clear ht hd
          have zc0 := (FB6.out.below hbw.out (Nat.le_refl _)).cell 0 (v := .slice A1 2 c1) rfl
          have zc1 := (FB6.out.below hbw.out (Nat.le_refl _)).cell 1 (v := .slice B1 2 d1_) rfl
          have HK := Lib.hid hK; clear hK
          refine wpOp_step (by simp only [List.getElem?_toArray, List.getElem?_cons_succ, List.getElem?_cons_zero]; rfl) (fun K' hK' => ?_)
          have HK' := Lib.hid hK'; clear hK'
          go_simp
          exact HK'.out _ _ (HK.out _ _ below_rf rfl)
        · intro a w K hb ht hd hK
          have hbw := Lib.hid (below_tr RB2.out hb); clear hb
          obtain ⟨x35, hx35, hp35⟩ := hd 3 _ rfl (by kernel_rfl)
          obtain rfl := hp35
          have es35 : a.tmps.getD 35 undef = _ := getD_of hx35; clear hx35
          obtain ⟨x36, hx36, hp36⟩ := hd 4 _ rfl (by kernel_rfl)
          obtain rfl := hp36
          have es36 : a.tmps.getD 36 undef = _ := getD_of hx36; clear hx36
          clear ht hd
          have HK := Lib.hid hK; clear hK
          refine wpOp_step (by simp only [List.getElem?_toArray, List.getElem?_cons_succ, List.getElem?_cons_zero]; rfl) (fun K' hK' => ?_)
          have HK' := Lib.hid hK'; clear hK'
          go_simp
          refine (diff_Dot _ _ _ _ _ _ _ _ _ _ _ _ _ (FS0_2.out.below hbw.out (Nat.le_refl _)) (FT0_2.out.below hbw.out (Nat.le_refl _)) (FS1_2.out.below hbw.out (Nat.le_refl _)) (FT1_2.out.below hbw.out (Nat.le_refl _)) HF0.out HG0.out HF1.out HG1.out).mono ?_
          rintro e w1 ⟨⟨A, c, rfl, S⟩, B⟩
          go_wp2_with fail
          exact HK'.out _ _ (HK.out _ _ B ⟨A, c, rfl, S⟩)
        · intro a w K hb ht hd hK
          have hbw := Lib.hid (below_tr RB2.out hb); clear hb
          have hx5 := (ht 5 rfl).trans rfl
          have es5 : a.tmps.getD 5 undef = _ := getD_of hx5; clear hx5
          clear ht hd
          have zc0 := (FB5.out.below hbw.out (Nat.le_refl _)).cell 0 (v := .slice A0 2 c0) rfl
          have zc1 := (FB5.out.below hbw.out (Nat.le_refl _)).cell 1 (v := .slice B0 2 d0_) rfl
          have HK := Lib.hid hK; clear hK
          refine wpOp_step (by simp only [List.getElem?_toArray, List.getElem?_cons_succ, List.getElem?_cons_zero]; rfl) (fun K' hK' => ?_)
          have HK' := Lib.hid hK'; clear hK'
          go_simp
          exact HK'.out _ _ (HK.out _ _ below_rf rfl)
        · intro a w K hb ht hd hK
          have hbw := Lib.hid (below_tr RB2.out hb); clear hb
          obtain ⟨x38, hx38, hp38⟩ := hd 6 _ rfl (by kernel_rfl)
          obtain rfl := hp38
          have es38 : a.tmps.getD 38 undef = _ := getD_of hx38; clear hx38
          clear ht hd
          have HK := Lib.hid hK; clear hK
          refine wpOp_step (by simp only [List.getElem?_toArray, List.getElem?_cons_succ, List.getElem?_cons_zero]; rfl) (fun K' hK' => ?_)
          have HK' := Lib.hid hK'; clear hK'
          go_simp
          refine (diff_Norm _ _ _ _ _ _ _ (FS0_2.out.below hbw.out (Nat.le_refl _)) (FT0_2.out.below hbw.out (Nat.le_refl _)) HF0.out HG0.out).mono ?_
          rintro e w1 ⟨⟨A, c, rfl, S⟩, B⟩
          go_wp2_with fail
          exact HK'.out _ _ (HK.out _ _ B ⟨A, c, rfl, S⟩)
        · intro a w K hb ht hd hK
          have hbw := Lib.hid (below_tr RB2.out hb); clear hb
          have hx5 := (ht 5 rfl).trans rfl
          have es5 : a.tmps.getD 5 undef = _ := getD_of hx5; clear hx5
          clear ht hd
          have zc0 := (FB5.out.below hbw.out (Nat.le_refl _)).cell 0 (v := .slice A0 2 c0) rfl
          have zc1 := (FB5.out.below hbw.out (Nat.le_refl _)).cell 1 (v := .slice B0 2 d0_) rfl
          have HK := Lib.hid hK; clear hK
          refine wpOp_step (by simp only [List.getElem?_toArray, List.getElem?_cons_succ, List.getElem?_cons_zero]; rfl) (fun K' hK' => ?_)
          have HK' := Lib.hid hK'; clear hK'
          go_simp
          exact HK'.out _ _ (HK.out _ _ below_rf rfl)
        · intro a w K hb ht hd hK
          have hbw := Lib.hid (below_tr RB2.out hb); clear hb
          obtain ⟨x40, hx40, hp40⟩ := hd 8 _ rfl (by kernel_rfl)
          obtain rfl := hp40
          have es40 : a.tmps.getD 40 undef = _ := getD_of hx40; clear hx40
          clear ht hd
          have HK := Lib.hid hK; clear hK
          refine wpOp_step (by simp only [List.getElem?_toArray, List.getElem?_cons_succ, List.getElem?_cons_zero]; rfl) (fun K' hK' => ?_)
          have HK' := Lib.hid hK'; clear hK'
          go_simp
          refine (diff_Neg _ _ _ _ _ _ _ (FS0_2.out.below hbw.out (Nat.le_refl _)) (FT0_2.out.below hbw.out (Nat.le_refl _))).mono ?_
          rintro e w1 ⟨⟨U, u, V, v, rfl, S, T⟩, B⟩
          go_wp2_with fail
          exact HK'.out _ _ (HK.out _ _ B ⟨U, u, V, v, rfl, S, T⟩)
        · intro a w K hb ht hd hK
          have hbw := Lib.hid (below_tr RB2.out hb); clear hb
          obtain ⟨x34, hx34, hp34⟩ := hd 2 _ rfl (by kernel_rfl)
          obtain ⟨A2, c2, rfl, S2⟩ := hp34
          have es34 : a.tmps.getD 34 undef = _ := getD_of hx34; clear hx34
          clear ht hd
          have HK := Lib.hid hK; clear hK
          refine wpOp_step (by simp only [List.getElem?_toArray, List.getElem?_cons_succ, List.getElem?_cons_zero]; rfl) (fun K' hK' => ?_)
          have HK' := Lib.hid hK'; clear hK'
          go_simp
          exact HK'.out _ _ (HK.out _ _ below_rf ⟨A2, c2, rfl, S2⟩)
        · intro a w K hb ht hd hK
          have hbw := Lib.hid (below_tr RB2.out hb); clear hb
          obtain ⟨x37, hx37, hp37⟩ := hd 5 _ rfl (by kernel_rfl)
          obtain ⟨A5, c5, rfl, S5⟩ := hp37
          have es37 : a.tmps.getD 37 undef = _ := getD_of hx37; clear hx37
          clear ht hd
          have HK := Lib.hid hK; clear hK
          refine wpOp_step (by simp only [List.getElem?_toArray, List.getElem?_cons_succ, List.getElem?_cons_zero]; rfl) (fun K' hK' => ?_)
          have HK' := Lib.hid hK'; clear hK'
          go_simp
          exact HK'.out _ _ (HK.out _ _ below_rf ⟨A5, c5, rfl, S5⟩)
        · intro a w K hb ht hd hK
          have hbw := Lib.hid (below_tr RB2.out hb); clear hb
          obtain ⟨x39, hx39, hp39⟩ := hd 7 _ rfl (by kernel_rfl)
          obtain ⟨A7, c7, rfl, S7⟩ := hp39
          have es39 : a.tmps.getD 39 undef = _ := getD_of hx39; clear hx39
          clear ht hd
          have HK := Lib.hid hK; clear hK
          refine wpOp_step (by simp only [List.getElem?_toArray, List.getElem?_cons_succ, List.getElem?_cons_zero]; rfl) (fun K' hK' => ?_)
          have HK' := Lib.hid hK'; clear hK'
          go_simp
          exact HK'.out _ _ (HK.out _ _ below_rf ⟨A7, c7, rfl, S7⟩)
      · intro w3 X B hb hv hx hd
        simp only [List.foldl_cons, List.foldl_nil, Act.put, List.setIfInBounds_toArray, List.set_cons_zero, List.set_cons_succ, ptrTo]
        obtain ⟨hv0, hv1, hv2, hv3, hv4, hv5, hv6, hv7, hv8, hv9, hv11, hv12, hv13, -⟩ := hv
        obtain ⟨⟨hn10, cs10, hx10, hg10⟩, -⟩ := hx
        clear hd
        have hV0 : (fun x _ => x = .agg #[.slice A0 2 c0, .slice B0 2 d0_]) (X 32) w3 := hv0; clear hv0; have hv0 := hV0; clear hV0; generalize X 32 = X32 at *
        have hV1 : (fun x _ => x = .agg #[.slice A1 2 c1, .slice B1 2 d1_]) (X 33) w3 := hv1; clear hv1; have hv1 := hV1; clear hV1; generalize X 33 = X33 at *
        have hV2 : (fun x w => ∃ (A : Option Addr) (c : Nat), x = .slice A 4 c ∧ Sl w .u64 A 4 c (lmb ((x0) * (y1) - (y0) * (x1)))) (X 34) w3 := hv2; clear hv2; have hv2 := hV2; clear hV2; generalize X 34 = X34 at *
        have hV3 : (fun x _ => x = .agg #[.slice A0 2 c0, .slice B0 2 d0_]) (X 35) w3 := hv3; clear hv3; have hv3 := hV3; clear hV3; generalize X 35 = X35 at *
        have hV4 : (fun x _ => x = .agg #[.slice A1 2 c1, .slice B1 2 d1_]) (X 36) w3 := hv4; clear hv4; have hv4 := hV4; clear hV4; generalize X 36 = X36 at *
        have hV5 : (fun x w => ∃ (A : Option Addr) (c : Nat), x = .slice A 4 c ∧ Sl w .u64 A 4 c (lmb ((x0) * (x1) + (y0) * (y1)))) (X 37) w3 := hv5; clear hv5; have hv5 := hV5; clear hV5; generalize X 37 = X37 at *
        have hV6 : (fun x _ => x = .agg #[.slice A0 2 c0, .slice B0 2 d0_]) (X 38) w3 := hv6; clear hv6; have hv6 := hV6; clear hV6; generalize X 38 = X38 at *
        have hV7 : (fun x w => ∃ (A : Option Addr) (c : Nat), x = .slice A 4 c ∧ Sl w .u64 A 4 c (lmb ((x0) * (x0) + (y0) * (y0)))) (X 39) w3 := hv7; clear hv7; have hv7 := hV7; clear hV7; generalize X 39 = X39 at *
        have hV8 : (fun x _ => x = .agg #[.slice A0 2 c0, .slice B0 2 d0_]) (X 40) w3 := hv8; clear hv8; have hv8 := hV8; clear hV8; generalize X 40 = X40 at *
        have hV9 : (fun x w => ∃ (U : Option Addr) (u : Nat) (V : Option Addr) (v : Nat), x = .agg #[.slice U 2 u, .slice V 2 v] ∧ Sl w .u64 U 2 u (lmb (-x0)) ∧ Sl w .u64 V 2 v (lmb (-y0))) (X 41) w3 := hv9; clear hv9; have hv9 := hV9; clear hV9; generalize X 41 = X41 at *
        have hV11 : (fun x w => ∃ (A : Option Addr) (c : Nat), x = .slice A 4 c ∧ Sl w .u64 A 4 c (lmb ((x0) * (y1) - (y0) * (x1)))) (X 7) w3 := hv11; clear hv11; have hv11 := hV11; clear hV11; generalize X 7 = X7 at *
        have hV12 : (fun x w => ∃ (A : Option Addr) (c : Nat), x = .slice A 4 c ∧ Sl w .u64 A 4 c (lmb ((x0) * (x1) + (y0) * (y1)))) (X 8) w3 := hv12; clear hv12; have hv12 := hV12; clear hV12; generalize X 8 = X8 at *
        have hV13 : (fun x w => ∃ (A : Option Addr) (c : Nat), x = .slice A 4 c ∧ Sl w .u64 A 4 c (lmb ((x0) * (x0) + (y0) * (y0)))) (X 9) w3 := hv13; clear hv13; have hv13 := hV13; clear hV13; generalize X 9 = X9 at *
        have hx10' : Bx w3 (B 10) cs10 26 := hx10; clear hx10; generalize B 10 = b10 at *
        have hn10' : w2.heap.size ≤ b10 := hn10; clear hn10
        obtain rfl := hv0
        obtain rfl := hv1
        clear hv2
        obtain rfl := hv3
        obtain rfl := hv4
        clear hv5
        obtain rfl := hv6
        clear hv7
        obtain rfl := hv8
        clear hv9
        obtain ⟨A111, c111, rfl, S111⟩ := hv11
        obtain ⟨A112, c112, rfl, S112⟩ := hv12
        obtain ⟨A113, c113, rfl, S113⟩ := hv13
        obtain ⟨U10, u10, V10, v10, rfl, S10, T10⟩ := hg10
        have RC := Lib.hid (below_tr RB2.out hb); clear hb
        have FS0_3 := Lib.hid (FS0_2.out.below RC.out (Nat.le_refl _))
        have FT0_3 := Lib.hid (FT0_2.out.below RC.out (Nat.le_refl _))
        have FS1_3 := Lib.hid (FS1_2.out.below RC.out (Nat.le_refl _))
        have FT1_3 := Lib.hid (FT1_2.out.below RC.out (Nat.le_refl _))
        have FP_3 := Lib.hid (FP_2.out.below RC.out (Nat.le_refl _))
        have FQ_3 := Lib.hid (FQ_2.out.below RC.out (Nat.le_refl _))
        have FB5_3 := Lib.hid (FB5.out.below RC.out (Nat.le_refl _))
        have FB6_3 := Lib.hid (FB6.out.below RC.out (Nat.le_refl _))
        have HB3 := Lib.hid (HB2.out.trans (RC.out.mono HB2.out.size))
        clear HB2 FS0_2 FT0_2 FS1_2 FT1_2 FP_2 FQ_2 FB5 FB6 RC RB2
        have FB10 := Lib.hid hx10'; clear hx10'
        have FS10 := Lib.hid S10; clear S10
        have FT10 := Lib.hid T10; clear T10
        have FS111 := Lib.hid S111; clear S111
        have FS112 := Lib.hid S112; clear S112
        have FS113 := Lib.hid S113; clear S113
        have vP0 := FP_3.out.cell 0 (v := .slice A0 2 c0) rfl
        have vP1 := FP_3.out.cell 1 (v := .slice B0 2 d0_) rfl
        go_wp2_with fail
        refine (law5_is _ _ 2 2 _ _ _).mono ?_
        rintro e w4 ⟨rfl, B⟩
        clear vP0 vP1
        have HB4 := Lib.hid (HB3.out.trans (B.mono HB3.out.size))
        have FS0_4 := Lib.hid (FS0_3.out.below B (Nat.le_refl _))
        have FT0_4 := Lib.hid (FT0_3.out.below B (Nat.le_refl _))
        have FS1_4 := Lib.hid (FS1_3.out.below B (Nat.le_refl _))
        have FT1_4 := Lib.hid (FT1_3.out.below B (Nat.le_refl _))
        have FP_4 := Lib.hid (FP_3.out.below B (Nat.le_refl _))
        have FQ_4 := Lib.hid (FQ_3.out.below B (Nat.le_refl _))
        have FB5_4 := Lib.hid (FB5_3.out.below B (Nat.le_refl _))
        have FB6_4 := Lib.hid (FB6_3.out.below B (Nat.le_refl _))
        have FB10_4 := Lib.hid (FB10.out.below B (Nat.le_refl _))
        have FS10_4 := Lib.hid (FS10.out.below B (Nat.le_refl _))
        have FT10_4 := Lib.hid (FT10.out.below B (Nat.le_refl _))
        have FS111_4 := Lib.hid (FS111.out.below B (Nat.le_refl _))
        have FS112_4 := Lib.hid (FS112.out.below B (Nat.le_refl _))
        have FS113_4 := Lib.hid (FS113.out.below B (Nat.le_refl _))
        clear B  HB3 FS0_3 FT0_3 FS1_3 FT1_3 FP_3 FQ_3 FB5_3 FB6_3 FB10 FS10 FT10 FS111 FS112 FS113
        rw [show vB 2 2 = true from rfl]
        have vP0 := FP_4.out.cell 0 (v := .slice A0 2 c0) rfl
        have vP1 := FP_4.out.cell 1 (v := .slice B0 2 d0_) rfl
        go_wp2_with fail
        refine (law5_value _ _ 2 2 _ _ _ _ _ FS0_4.out FT0_4.out HF0.out HG0.out (by omega) (by omega)).mono ?_
        rintro e w5 ⟨⟨P11, p11, g11, Q11, q11, h11, rfl, ⟨e11, f11⟩, M11, N11⟩, B⟩
        clear vP0 vP1
        have HB5 := Lib.hid (HB4.out.trans (B.mono HB4.out.size))
        have FS0_5 := Lib.hid (FS0_4.out.below B (Nat.le_refl _))
        have FT0_5 := Lib.hid (FT0_4.out.below B (Nat.le_refl _))
        have FS1_5 := Lib.hid (FS1_4.out.below B (Nat.le_refl _))
        have FT1_5 := Lib.hid (FT1_4.out.below B (Nat.le_refl _))
        have FP_5 := Lib.hid (FP_4.out.below B (Nat.le_refl _))
        have FQ_5 := Lib.hid (FQ_4.out.below B (Nat.le_refl _))
        have FB5_5 := Lib.hid (FB5_4.out.below B (Nat.le_refl _))
        have FB6_5 := Lib.hid (FB6_4.out.below B (Nat.le_refl _))
        have FB10_5 := Lib.hid (FB10_4.out.below B (Nat.le_refl _))
        have FS10_5 := Lib.hid (FS10_4.out.below B (Nat.le_refl _))
        have FT10_5 := Lib.hid (FT10_4.out.below B (Nat.le_refl _))
        have FS111_5 := Lib.hid (FS111_4.out.below B (Nat.le_refl _))
        have FS112_5 := Lib.hid (FS112_4.out.below B (Nat.le_refl _))
        have FS113_5 := Lib.hid (FS113_4.out.below B (Nat.le_refl _))
        have FM11_5 := Lib.hid M11
        have FN11_5 := Lib.hid N11
        clear B M11 N11 HB4 FS0_4 FT0_4 FS1_4 FT1_4 FP_4 FQ_4 FB5_4 FB6_4 FB10_4 FS10_4 FT10_4 FS111_4 FS112_4 FS113_4
        go_upto_region 8 with (fail)
        have B : Below w.heap.size w (w5.alloc (.cells #[.int .i64 (sg (x0)), .slice P11 p11 g11, .int .i64 (sg (y0)), .slice Q11 q11 h11] 32)) := (HB5.out.alloc HB5.out.size _)
        have C : Below w5.heap.size w5 (w5.alloc (.cells #[.int .i64 (sg (x0)), .slice P11 p11 g11, .int .i64 (sg (y0)), .slice Q11 q11 h11] 32)) := ((Below.refl w5.heap.size w5).alloc (Nat.le_refl _) _)
        have X0 : Bx (w5.alloc (.cells #[.int .i64 (sg (x0)), .slice P11 p11 g11, .int .i64 (sg (y0)), .slice Q11 q11 h11] 32)) (w5.heap.size) #[.int .i64 (sg (x0)), .slice P11 p11 g11, .int .i64 (sg (y0)), .slice Q11 q11 h11] 32 := by simpa using (Bx.new w5 #[.int .i64 (sg (x0)), .slice P11 p11 g11, .int .i64 (sg (y0)), .slice Q11 q11 h11] 32)
        have FS0_6 := Lib.hid (FS0_5.out.below C (Nat.le_refl _))
        have FT0_6 := Lib.hid (FT0_5.out.below C (Nat.le_refl _))
        have FS1_6 := Lib.hid (FS1_5.out.below C (Nat.le_refl _))
        have FT1_6 := Lib.hid (FT1_5.out.below C (Nat.le_refl _))
        have FP_6 := Lib.hid (FP_5.out.below C (Nat.le_refl _))
        have FQ_6 := Lib.hid (FQ_5.out.below C (Nat.le_refl _))
        have FB5_6 := Lib.hid (FB5_5.out.below C (Nat.le_refl _))
        have FB6_6 := Lib.hid (FB6_5.out.below C (Nat.le_refl _))
        have FB10_6 := Lib.hid (FB10_5.out.below C (Nat.le_refl _))
        have FS10_6 := Lib.hid (FS10_5.out.below C (Nat.le_refl _))
        have FT10_6 := Lib.hid (FT10_5.out.below C (Nat.le_refl _))
        have FS111_6 := Lib.hid (FS111_5.out.below C (Nat.le_refl _))
        have FS112_6 := Lib.hid (FS112_5.out.below C (Nat.le_refl _))
        have FS113_6 := Lib.hid (FS113_5.out.below C (Nat.le_refl _))
        have FM11_6 := Lib.hid (FM11_5.out.below C (Nat.le_refl _))
        have FN11_6 := Lib.hid (FN11_5.out.below C (Nat.le_refl _))
        have HB6 := Lib.hid B
        have FB11_6 := Lib.hid X0
        clear B C X0 HB5 FS0_5 FT0_5 FS1_5 FT1_5 FP_5 FQ_5 FB5_5 FB6_5 FB10_5 FS10_5 FT10_5 FS111_5 FS112_5 FS113_5 FM11_5 FN11_5
        generalize (w5.alloc (.cells #[.int .i64 (sg (x0)), .slice P11 p11 g11, .int .i64 (sg (y0)), .slice Q11 q11 h11] 32)) = w6 at *
        have RB6 := Lib.hid (below_drew0 w6)
        refine wp_region_held_drew (S := fun _ => True) (by kernel_rfl) trivial (fun _ => ?_)
        refine wpAnyH_gen [] [⟨0, 67, fun x _ => x = .slice A113 4 c113⟩, ⟨1, 68, fun x _ => x = .agg #[.int .i64 (sg (x0)), .slice P11 p11 g11, .int .i64 (sg (y0)), .slice Q11 q11 h11]⟩, ⟨2, 69, fun x _ => x = .agg #[.int .i64 (sg (x0)), .slice P11 p11 g11, .int .i64 (sg (y0)), .slice Q11 q11 h11]⟩, ⟨3, 70, fun x w => ∃ (A : Option Addr) (n c : Nat), x = .agg #[.int .i64 (sg ((x0) * (x0) + (y0) * (y0))), .slice A n c] ∧ Nm w A n c ((x0) * (x0) + (y0) * (y0)) ∧ n ≤ 2 * 10 + 1⟩, ⟨4, 71, fun x _ => x = .bool true⟩, ⟨5, 72, fun x _ => x = .bool false⟩, ⟨6, 73, fun x _ => x = .bool false⟩, ⟨7, 74, fun x _ => x = .pointer (some ⟨b10, 0, none⟩)⟩, ⟨8, 75, fun x _ => x = .slice U10 2 u10⟩, ⟨9, 76, fun x _ => x = .pointer (some ⟨w5.heap.size, 0, none⟩)⟩, ⟨10, 77, fun x _ => x = .agg #[.int .i64 (sg (x0)), .slice P11 p11 g11]⟩, ⟨11, 78, fun x w => ∃ (A : Option Addr) (n c : Nat), x = .agg #[.int .i64 (sg (-x0)), .slice A n c] ∧ Nm w A n c (-x0) ∧ n ≤ 10⟩, ⟨12, 79, fun x _ => x = .bool true⟩, ⟨13, 80, fun x _ => x = .bool false⟩, ⟨14, 81, fun x _ => x = .bool false⟩, ⟨15, 82, fun x _ => x = .bool false⟩, ⟨16, 83, fun x _ => x = .pointer (some ⟨b10, 1, none⟩)⟩, ⟨17, 84, fun x _ => x = .slice V10 2 v10⟩, ⟨18, 85, fun x _ => x = .pointer (some ⟨w5.heap.size, 2, none⟩)⟩, ⟨19, 86, fun x _ => x = .agg #[.int .i64 (sg (y0)), .slice Q11 q11 h11]⟩, ⟨20, 87, fun x w => ∃ (A : Option Addr) (n c : Nat), x = .agg #[.int .i64 (sg (-y0)), .slice A n c] ∧ Nm w A n c (-y0) ∧ n ≤ 10⟩, ⟨21, 88, fun x _ => x = .bool true⟩, ⟨22, 89, fun x _ => x = .bool false⟩, ⟨23, 90, fun x _ => x = .bool false⟩] (by kernel_rfl) (by kernel_rfl) (fun _ => trivial) ?_ ?_ ?_ ?_ ?_ ?_
        · exact trivial
        · refine ⟨?_, ?_, ?_, ?_, ?_, ?_, ?_, ?_, ?_, ?_, ?_, ?_, ?_, ?_, ?_, ?_, ?_, ?_, ?_, ?_, ?_, ?_, ?_, ?_, trivial⟩
          all_goals (intro x; (dsimp only; repeat (first | exact Stay.const _ | exact Stay.sl _ _ _ _ | exact Stay.nm _ _ _ _ | exact Stay.bx _ _ _ _ | refine Stay.ex fun _ => ?_ | refine Stay.and ?_ ?_)))
        · exact trivial
        · exact trivial
        · refine ⟨?_, ?_, ?_, ?_, ?_, ?_, ?_, ?_, ?_, ?_, ?_, ?_, ?_, ?_, ?_, ?_, ?_, ?_, ?_, ?_, ?_, ?_, ?_, ?_, trivial⟩
          · intro a w K hb ht hd hK
            have hbw := Lib.hid (below_tr RB6.out hb); clear hb
            have hx9 := (ht 9 rfl).trans rfl
            have es9 : a.tmps.getD 9 undef = _ := getD_of hx9; clear hx9
            clear ht hd
            have HK := Lib.hid hK; clear hK
            refine wpOp_step (by simp only [List.getElem?_toArray, List.getElem?_cons_succ, List.getElem?_cons_zero]; rfl) (fun K' hK' => ?_)
            have HK' := Lib.hid hK'; clear hK'
            go_simp
            exact HK'.out _ _ (HK.out _ _ below_rf rfl)
          · intro a w K hb ht hd hK
            have hbw := Lib.hid (below_tr RB6.out hb); clear hb
            have hx11 := (ht 11 rfl).trans rfl
            have es11 : a.tmps.getD 11 undef = _ := getD_of hx11; clear hx11
            clear ht hd
            have zc0 := (FB11_6.out.below hbw.out (Nat.le_refl _)).cell 0 (v := .int .i64 (sg (x0))) rfl
            have zc1 := (FB11_6.out.below hbw.out (Nat.le_refl _)).cell 1 (v := .slice P11 p11 g11) rfl
            have zc2 := (FB11_6.out.below hbw.out (Nat.le_refl _)).cell 2 (v := .int .i64 (sg (y0))) rfl
            have zc3 := (FB11_6.out.below hbw.out (Nat.le_refl _)).cell 3 (v := .slice Q11 q11 h11) rfl
            have HK := Lib.hid hK; clear hK
            refine wpOp_step (by simp only [List.getElem?_toArray, List.getElem?_cons_succ, List.getElem?_cons_zero]; rfl) (fun K' hK' => ?_)
            have HK' := Lib.hid hK'; clear hK'
            go_simp
            exact HK'.out _ _ (HK.out _ _ below_rf rfl)
          · intro a w K hb ht hd hK
            have hbw := Lib.hid (below_tr RB6.out hb); clear hb
            have hx11 := (ht 11 rfl).trans rfl
            have es11 : a.tmps.getD 11 undef = _ := getD_of hx11; clear hx11
            clear ht hd
            have zc0 := (FB11_6.out.below hbw.out (Nat.le_refl _)).cell 0 (v := .int .i64 (sg (x0))) rfl
            have zc1 := (FB11_6.out.below hbw.out (Nat.le_refl _)).cell 1 (v := .slice P11 p11 g11) rfl
            have zc2 := (FB11_6.out.below hbw.out (Nat.le_refl _)).cell 2 (v := .int .i64 (sg (y0))) rfl
            have zc3 := (FB11_6.out.below hbw.out (Nat.le_refl _)).cell 3 (v := .slice Q11 q11 h11) rfl
            have HK := Lib.hid hK; clear hK
            refine wpOp_step (by simp only [List.getElem?_toArray, List.getElem?_cons_succ, List.getElem?_cons_zero]; rfl) (fun K' hK' => ?_)
            have HK' := Lib.hid hK'; clear hK'
            go_simp
            exact HK'.out _ _ (HK.out _ _ below_rf rfl)
          · intro a w K hb ht hd hK
            have hbw := Lib.hid (below_tr RB6.out hb); clear hb
            obtain ⟨x68, hx68, hp68⟩ := hd 1 _ rfl (by kernel_rfl)
            obtain rfl := hp68
            have es68 : a.tmps.getD 68 undef = _ := getD_of hx68; clear hx68
            obtain ⟨x69, hx69, hp69⟩ := hd 2 _ rfl (by kernel_rfl)
            obtain rfl := hp69
            have es69 : a.tmps.getD 69 undef = _ := getD_of hx69; clear hx69
            clear ht hd
            have HK := Lib.hid hK; clear hK
            refine wpOp_step (by simp only [List.getElem?_toArray, List.getElem?_cons_succ, List.getElem?_cons_zero]; rfl) (fun K' hK' => ?_)
            have HK' := Lib.hid hK'; clear hK'
            go_simp
            refine (ref5_Dot _ _ _ _ _ _ _ _ _ _ _ _ _ _ _ _ _ (FM11_6.out.below hbw.out (Nat.le_refl _)) (FN11_6.out.below hbw.out (Nat.le_refl _)) (FM11_6.out.below hbw.out (Nat.le_refl _)) (FN11_6.out.below hbw.out (Nat.le_refl _)) 10 (by omega) e11 f11 e11 f11).mono ?_
            rintro e w1 ⟨⟨A, n, c, rfl, b, S⟩, B⟩
            go_wp2_with fail
            exact HK'.out _ _ (HK.out _ _ B ⟨A, n, c, rfl, S, b⟩)
          · intro a w K hb ht hd hK
            have hbw := Lib.hid (below_tr RB6.out hb); clear hb
            obtain ⟨x67, hx67, hp67⟩ := hd 0 _ rfl (by kernel_rfl)
            obtain rfl := hp67
            have es67 : a.tmps.getD 67 undef = _ := getD_of hx67; clear hx67
            obtain ⟨x70, hx70, hp70⟩ := hd 3 _ rfl (by kernel_rfl)
            obtain ⟨A3, n3, c3, rfl, S3, b3⟩ := hp70
            have es70 : a.tmps.getD 70 undef = _ := getD_of hx70; clear hx70
            clear ht hd
            have HK := Lib.hid hK; clear hK
            refine wpOp_step (by simp only [List.getElem?_toArray, List.getElem?_cons_succ, List.getElem?_cons_zero]; rfl) (fun K' hK' => ?_)
            have HK' := Lib.hid hK'; clear hK'
            go_simp
            refine (law5_limbs _ _ 4 _ _ _ ((x0) * (x0) + (y0) * (y0)) ((x0) * (x0) + (y0) * (y0)) 4 rfl _ (FS113_6.out.below hbw.out (Nat.le_refl _)) S3 (fun _ _ => rfl) (by omega) (by omega)).mono ?_
            rintro e w1 ⟨rfl, B⟩
            go_wp2_with fail
            exact HK'.out _ _ (HK.out _ _ B rfl)
          · intro a w K hb ht hd hK
            have hbw := Lib.hid (below_tr RB6.out hb); clear hb
            obtain ⟨x71, hx71, hp71⟩ := hd 4 _ rfl (by kernel_rfl)
            obtain rfl := hp71
            have es71 : a.tmps.getD 71 undef = _ := getD_of hx71; clear hx71
            clear ht hd
            have HK := Lib.hid hK; clear hK
            refine wpOp_step (by simp only [List.getElem?_toArray, List.getElem?_cons_succ, List.getElem?_cons_zero]; rfl) (fun K' hK' => ?_)
            have HK' := Lib.hid hK'; clear hK'
            go_simp
            exact HK'.out _ _ (HK.out _ _ below_rf rfl)
          · intro a w K hb ht hd hK
            have hbw := Lib.hid (below_tr RB6.out hb); clear hb
            obtain ⟨x72, hx72, hp72⟩ := hd 5 _ rfl (by kernel_rfl)
            obtain rfl := hp72
            have es72 : a.tmps.getD 72 undef = _ := getD_of hx72; clear hx72
            clear ht hd
            have HK := Lib.hid hK; clear hK
            refine wpOp_step (by simp only [List.getElem?_toArray, List.getElem?_cons_succ, List.getElem?_cons_zero]; rfl) (fun K' hK' => ?_)
            have HK' := Lib.hid hK'; clear hK'
            go_simp
            exact HK'.out _ _ (HK.out _ _ below_rf rfl)
          · intro a w K hb ht hd hK
            have hbw := Lib.hid (below_tr RB6.out hb); clear hb
            have hx10 := (ht 10 rfl).trans rfl
            have es10 : a.tmps.getD 10 undef = _ := getD_of hx10; clear hx10
            obtain ⟨x73, hx73, hp73⟩ := hd 6 _ rfl (by kernel_rfl)
            obtain rfl := hp73
            have es73 : a.tmps.getD 73 undef = _ := getD_of hx73; have gs73 : a.tmps[73]? = some _ := hx73; clear hx73
            clear ht hd
            have HK := Lib.hid hK; clear hK
            refine wpOp_step (by simp only [List.getElem?_toArray, List.getElem?_cons_succ, List.getElem?_cons_zero]; rfl) (fun K' hK' => ?_)
            have HK' := Lib.hid hK'; clear hK'
            go_simp
            exact HK'.out _ _ (HK.out _ _ below_rf rfl)
          · intro a w K hb ht hd hK
            have hbw := Lib.hid (below_tr RB6.out hb); clear hb
            obtain ⟨x74, hx74, hp74⟩ := hd 7 _ rfl (by kernel_rfl)
            obtain rfl := hp74
            have es74 : a.tmps.getD 74 undef = _ := getD_of hx74; clear hx74
            obtain ⟨x73, hx73, hp73⟩ := hd 6 _ rfl (by kernel_rfl)
            obtain rfl := hp73
            have es73 : a.tmps.getD 73 undef = _ := getD_of hx73; have gs73 : a.tmps[73]? = some _ := hx73; clear hx73
            clear ht hd
            have zc0 := (FB10_6.out.below hbw.out (Nat.le_refl _)).cell 0 (v := .slice U10 2 u10) rfl
            have HK := Lib.hid hK; clear hK
            refine wpOp_step (by simp only [List.getElem?_toArray, List.getElem?_cons_succ, List.getElem?_cons_zero]; rfl) (fun K' hK' => ?_)
            have HK' := Lib.hid hK'; clear hK'
            go_simp
            exact HK'.out _ _ (HK.out _ _ below_rf rfl)
          · intro a w K hb ht hd hK
            have hbw := Lib.hid (below_tr RB6.out hb); clear hb
            have hx11 := (ht 11 rfl).trans rfl
            have es11 : a.tmps.getD 11 undef = _ := getD_of hx11; clear hx11
            obtain ⟨x73, hx73, hp73⟩ := hd 6 _ rfl (by kernel_rfl)
            obtain rfl := hp73
            have es73 : a.tmps.getD 73 undef = _ := getD_of hx73; have gs73 : a.tmps[73]? = some _ := hx73; clear hx73
            clear ht hd
            have HK := Lib.hid hK; clear hK
            refine wpOp_step (by simp only [List.getElem?_toArray, List.getElem?_cons_succ, List.getElem?_cons_zero]; rfl) (fun K' hK' => ?_)
            have HK' := Lib.hid hK'; clear hK'
            go_simp
            exact HK'.out _ _ (HK.out _ _ below_rf rfl)
          · intro a w K hb ht hd hK
            have hbw := Lib.hid (below_tr RB6.out hb); clear hb
            obtain ⟨x76, hx76, hp76⟩ := hd 9 _ rfl (by kernel_rfl)
            obtain rfl := hp76
            have es76 : a.tmps.getD 76 undef = _ := getD_of hx76; clear hx76
            obtain ⟨x73, hx73, hp73⟩ := hd 6 _ rfl (by kernel_rfl)
            obtain rfl := hp73
            have es73 : a.tmps.getD 73 undef = _ := getD_of hx73; have gs73 : a.tmps[73]? = some _ := hx73; clear hx73
            clear ht hd
            have zc0 := (FB11_6.out.below hbw.out (Nat.le_refl _)).cell 0 (v := .int .i64 (sg (x0))) rfl
            have zc1 := (FB11_6.out.below hbw.out (Nat.le_refl _)).cell 1 (v := .slice P11 p11 g11) rfl
            have HK := Lib.hid hK; clear hK
            refine wpOp_step (by simp only [List.getElem?_toArray, List.getElem?_cons_succ, List.getElem?_cons_zero]; rfl) (fun K' hK' => ?_)
            have HK' := Lib.hid hK'; clear hK'
            go_simp
            exact HK'.out _ _ (HK.out _ _ below_rf rfl)
          · intro a w K hb ht hd hK
            have hbw := Lib.hid (below_tr RB6.out hb); clear hb
            obtain ⟨x77, hx77, hp77⟩ := hd 10 _ rfl (by kernel_rfl)
            obtain rfl := hp77
            have es77 : a.tmps.getD 77 undef = _ := getD_of hx77; clear hx77
            obtain ⟨x73, hx73, hp73⟩ := hd 6 _ rfl (by kernel_rfl)
            obtain rfl := hp73
            have es73 : a.tmps.getD 73 undef = _ := getD_of hx73; have gs73 : a.tmps[73]? = some _ := hx73; clear hx73
            clear ht hd
            have HK := Lib.hid hK; clear hK
            refine wpOp_step (by simp only [List.getElem?_toArray, List.getElem?_cons_succ, List.getElem?_cons_zero]; rfl) (fun K' hK' => ?_)
            have HK' := Lib.hid hK'; clear hK'
            go_simp
            refine (ref3_Neg _ _ _ x0 _ (FM11_6.out.below hbw.out (Nat.le_refl _))).mono ?_
            rintro e w1 ⟨rfl, B⟩
            go_wp2_with fail
            exact HK'.out _ _ (HK.out _ _ B ⟨_, _, _, rfl, nm_neg ((FM11_6.out.below hbw.out (Nat.le_refl _)).below B (Nat.le_refl _)), by omega⟩)
          · intro a w K hb ht hd hK
            have hbw := Lib.hid (below_tr RB6.out hb); clear hb
            obtain ⟨x75, hx75, hp75⟩ := hd 8 _ rfl (by kernel_rfl)
            obtain rfl := hp75
            have es75 : a.tmps.getD 75 undef = _ := getD_of hx75; clear hx75
            obtain ⟨x78, hx78, hp78⟩ := hd 11 _ rfl (by kernel_rfl)
            obtain ⟨A11, n11, c11, rfl, S11, b11⟩ := hp78
            have es78 : a.tmps.getD 78 undef = _ := getD_of hx78; clear hx78
            obtain ⟨x73, hx73, hp73⟩ := hd 6 _ rfl (by kernel_rfl)
            obtain rfl := hp73
            have es73 : a.tmps.getD 73 undef = _ := getD_of hx73; have gs73 : a.tmps[73]? = some _ := hx73; clear hx73
            clear ht hd
            have HK := Lib.hid hK; clear hK
            refine wpOp_step (by simp only [List.getElem?_toArray, List.getElem?_cons_succ, List.getElem?_cons_zero]; rfl) (fun K' hK' => ?_)
            have HK' := Lib.hid hK'; clear hK'
            go_simp
            refine (law5_limbs _ _ 2 _ _ _ (-x0) (-x0) 2 rfl _ (FS10_6.out.below hbw.out (Nat.le_refl _)) S11 (fun _ _ => rfl) (by omega) (by omega)).mono ?_
            rintro e w1 ⟨rfl, B⟩
            go_wp2_with fail
            exact HK'.out _ _ (HK.out _ _ B rfl)
          · intro a w K hb ht hd hK
            have hbw := Lib.hid (below_tr RB6.out hb); clear hb
            obtain ⟨x79, hx79, hp79⟩ := hd 12 _ rfl (by kernel_rfl)
            obtain rfl := hp79
            have es79 : a.tmps.getD 79 undef = _ := getD_of hx79; clear hx79
            obtain ⟨x73, hx73, hp73⟩ := hd 6 _ rfl (by kernel_rfl)
            obtain rfl := hp73
            have es73 : a.tmps.getD 73 undef = _ := getD_of hx73; have gs73 : a.tmps[73]? = some _ := hx73; clear hx73
            clear ht hd
            have HK := Lib.hid hK; clear hK
            refine wpOp_step (by simp only [List.getElem?_toArray, List.getElem?_cons_succ, List.getElem?_cons_zero]; rfl) (fun K' hK' => ?_)
            have HK' := Lib.hid hK'; clear hK'
            go_simp
            exact HK'.out _ _ (HK.out _ _ below_rf rfl)
          · intro a w K hb ht hd hK
            have hbw := Lib.hid (below_tr RB6.out hb); clear hb
            obtain ⟨x73, hx73, hp73⟩ := hd 6 _ rfl (by kernel_rfl)
            obtain rfl := hp73
            have es73 : a.tmps.getD 73 undef = _ := getD_of hx73; clear hx73
            obtain ⟨x80, hx80, hp80⟩ := hd 13 _ rfl (by kernel_rfl)
            obtain rfl := hp80
            have es80 : a.tmps.getD 80 undef = _ := getD_of hx80; clear hx80
            clear ht hd
            have HK := Lib.hid hK; clear hK
            refine wpOp_step (by simp only [List.getElem?_toArray, List.getElem?_cons_succ, List.getElem?_cons_zero]; rfl) (fun K' hK' => ?_)
            have HK' := Lib.hid hK'; clear hK'
            go_simp
            exact HK'.out _ _ (HK.out _ _ below_rf rfl)
          · intro a w K hb ht hd hK
            have hbw := Lib.hid (below_tr RB6.out hb); clear hb
            obtain ⟨x81, hx81, hp81⟩ := hd 14 _ rfl (by kernel_rfl)
            obtain rfl := hp81
            have es81 : a.tmps.getD 81 undef = _ := getD_of hx81; clear hx81
            clear ht hd
            have HK := Lib.hid hK; clear hK
            refine wpOp_step (by simp only [List.getElem?_toArray, List.getElem?_cons_succ, List.getElem?_cons_zero]; rfl) (fun K' hK' => ?_)
            have HK' := Lib.hid hK'; clear hK'
            go_simp
            exact HK'.out _ _ (HK.out _ _ below_rf rfl)
          · intro a w K hb ht hd hK
            have hbw := Lib.hid (below_tr RB6.out hb); clear hb
            have hx10 := (ht 10 rfl).trans rfl
            have es10 : a.tmps.getD 10 undef = _ := getD_of hx10; clear hx10
            obtain ⟨x82, hx82, hp82⟩ := hd 15 _ rfl (by kernel_rfl)
            obtain rfl := hp82
            have es82 : a.tmps.getD 82 undef = _ := getD_of hx82; have gs82 : a.tmps[82]? = some _ := hx82; clear hx82
            clear ht hd
            have HK := Lib.hid hK; clear hK
            refine wpOp_step (by simp only [List.getElem?_toArray, List.getElem?_cons_succ, List.getElem?_cons_zero]; rfl) (fun K' hK' => ?_)
            have HK' := Lib.hid hK'; clear hK'
            go_simp
            exact HK'.out _ _ (HK.out _ _ below_rf rfl)
          · intro a w K hb ht hd hK
            have hbw := Lib.hid (below_tr RB6.out hb); clear hb
            obtain ⟨x83, hx83, hp83⟩ := hd 16 _ rfl (by kernel_rfl)
            obtain rfl := hp83
            have es83 : a.tmps.getD 83 undef = _ := getD_of hx83; clear hx83
            obtain ⟨x82, hx82, hp82⟩ := hd 15 _ rfl (by kernel_rfl)
            obtain rfl := hp82
            have es82 : a.tmps.getD 82 undef = _ := getD_of hx82; have gs82 : a.tmps[82]? = some _ := hx82; clear hx82
            clear ht hd
            have zc0 := (FB10_6.out.below hbw.out (Nat.le_refl _)).cell 1 (v := .slice V10 2 v10) rfl
            have HK := Lib.hid hK; clear hK
            refine wpOp_step (by simp only [List.getElem?_toArray, List.getElem?_cons_succ, List.getElem?_cons_zero]; rfl) (fun K' hK' => ?_)
            have HK' := Lib.hid hK'; clear hK'
            go_simp
            exact HK'.out _ _ (HK.out _ _ below_rf rfl)
          · intro a w K hb ht hd hK
            have hbw := Lib.hid (below_tr RB6.out hb); clear hb
            have hx11 := (ht 11 rfl).trans rfl
            have es11 : a.tmps.getD 11 undef = _ := getD_of hx11; clear hx11
            obtain ⟨x82, hx82, hp82⟩ := hd 15 _ rfl (by kernel_rfl)
            obtain rfl := hp82
            have es82 : a.tmps.getD 82 undef = _ := getD_of hx82; have gs82 : a.tmps[82]? = some _ := hx82; clear hx82
            clear ht hd
            have HK := Lib.hid hK; clear hK
            refine wpOp_step (by simp only [List.getElem?_toArray, List.getElem?_cons_succ, List.getElem?_cons_zero]; rfl) (fun K' hK' => ?_)
            have HK' := Lib.hid hK'; clear hK'
            go_simp
            exact HK'.out _ _ (HK.out _ _ below_rf rfl)
          · intro a w K hb ht hd hK
            have hbw := Lib.hid (below_tr RB6.out hb); clear hb
            obtain ⟨x85, hx85, hp85⟩ := hd 18 _ rfl (by kernel_rfl)
            obtain rfl := hp85
            have es85 : a.tmps.getD 85 undef = _ := getD_of hx85; clear hx85
            obtain ⟨x82, hx82, hp82⟩ := hd 15 _ rfl (by kernel_rfl)
            obtain rfl := hp82
            have es82 : a.tmps.getD 82 undef = _ := getD_of hx82; have gs82 : a.tmps[82]? = some _ := hx82; clear hx82
            clear ht hd
            have zc0 := (FB11_6.out.below hbw.out (Nat.le_refl _)).cell 2 (v := .int .i64 (sg (y0))) rfl
            have zc1 := (FB11_6.out.below hbw.out (Nat.le_refl _)).cell 3 (v := .slice Q11 q11 h11) rfl
            have HK := Lib.hid hK; clear hK
            refine wpOp_step (by simp only [List.getElem?_toArray, List.getElem?_cons_succ, List.getElem?_cons_zero]; rfl) (fun K' hK' => ?_)
            have HK' := Lib.hid hK'; clear hK'
            go_simp
            exact HK'.out _ _ (HK.out _ _ below_rf rfl)
          · intro a w K hb ht hd hK
            have hbw := Lib.hid (below_tr RB6.out hb); clear hb
            obtain ⟨x86, hx86, hp86⟩ := hd 19 _ rfl (by kernel_rfl)
            obtain rfl := hp86
            have es86 : a.tmps.getD 86 undef = _ := getD_of hx86; clear hx86
            obtain ⟨x82, hx82, hp82⟩ := hd 15 _ rfl (by kernel_rfl)
            obtain rfl := hp82
            have es82 : a.tmps.getD 82 undef = _ := getD_of hx82; have gs82 : a.tmps[82]? = some _ := hx82; clear hx82
            clear ht hd
            have HK := Lib.hid hK; clear hK
            refine wpOp_step (by simp only [List.getElem?_toArray, List.getElem?_cons_succ, List.getElem?_cons_zero]; rfl) (fun K' hK' => ?_)
            have HK' := Lib.hid hK'; clear hK'
            go_simp
            refine (ref3_Neg _ _ _ y0 _ (FN11_6.out.below hbw.out (Nat.le_refl _))).mono ?_
            rintro e w1 ⟨rfl, B⟩
            go_wp2_with fail
            exact HK'.out _ _ (HK.out _ _ B ⟨_, _, _, rfl, nm_neg ((FN11_6.out.below hbw.out (Nat.le_refl _)).below B (Nat.le_refl _)), by omega⟩)
          · intro a w K hb ht hd hK
            have hbw := Lib.hid (below_tr RB6.out hb); clear hb
            obtain ⟨x84, hx84, hp84⟩ := hd 17 _ rfl (by kernel_rfl)
            obtain rfl := hp84
            have es84 : a.tmps.getD 84 undef = _ := getD_of hx84; clear hx84
            obtain ⟨x87, hx87, hp87⟩ := hd 20 _ rfl (by kernel_rfl)
            obtain ⟨A20, n20, c20, rfl, S20, b20⟩ := hp87
            have es87 : a.tmps.getD 87 undef = _ := getD_of hx87; clear hx87
            obtain ⟨x82, hx82, hp82⟩ := hd 15 _ rfl (by kernel_rfl)
            obtain rfl := hp82
            have es82 : a.tmps.getD 82 undef = _ := getD_of hx82; have gs82 : a.tmps[82]? = some _ := hx82; clear hx82
            clear ht hd
            have HK := Lib.hid hK; clear hK
            refine wpOp_step (by simp only [List.getElem?_toArray, List.getElem?_cons_succ, List.getElem?_cons_zero]; rfl) (fun K' hK' => ?_)
            have HK' := Lib.hid hK'; clear hK'
            go_simp
            refine (law5_limbs _ _ 2 _ _ _ (-y0) (-y0) 2 rfl _ (FT10_6.out.below hbw.out (Nat.le_refl _)) S20 (fun _ _ => rfl) (by omega) (by omega)).mono ?_
            rintro e w1 ⟨rfl, B⟩
            go_wp2_with fail
            exact HK'.out _ _ (HK.out _ _ B rfl)
          · intro a w K hb ht hd hK
            have hbw := Lib.hid (below_tr RB6.out hb); clear hb
            obtain ⟨x88, hx88, hp88⟩ := hd 21 _ rfl (by kernel_rfl)
            obtain rfl := hp88
            have es88 : a.tmps.getD 88 undef = _ := getD_of hx88; clear hx88
            obtain ⟨x82, hx82, hp82⟩ := hd 15 _ rfl (by kernel_rfl)
            obtain rfl := hp82
            have es82 : a.tmps.getD 82 undef = _ := getD_of hx82; have gs82 : a.tmps[82]? = some _ := hx82; clear hx82
            clear ht hd
            have HK := Lib.hid hK; clear hK
            refine wpOp_step (by simp only [List.getElem?_toArray, List.getElem?_cons_succ, List.getElem?_cons_zero]; rfl) (fun K' hK' => ?_)
            have HK' := Lib.hid hK'; clear hK'
            go_simp
            exact HK'.out _ _ (HK.out _ _ below_rf rfl)
          · intro a w K hb ht hd hK
            have hbw := Lib.hid (below_tr RB6.out hb); clear hb
            obtain ⟨x82, hx82, hp82⟩ := hd 15 _ rfl (by kernel_rfl)
            obtain rfl := hp82
            have es82 : a.tmps.getD 82 undef = _ := getD_of hx82; clear hx82
            obtain ⟨x89, hx89, hp89⟩ := hd 22 _ rfl (by kernel_rfl)
            obtain rfl := hp89
            have es89 : a.tmps.getD 89 undef = _ := getD_of hx89; clear hx89
            clear ht hd
            have HK := Lib.hid hK; clear hK
            refine wpOp_step (by simp only [List.getElem?_toArray, List.getElem?_cons_succ, List.getElem?_cons_zero]; rfl) (fun K' hK' => ?_)
            have HK' := Lib.hid hK'; clear hK'
            go_simp
            exact HK'.out _ _ (HK.out _ _ below_rf rfl)
        · intro w7 X B hb hv hx hd
          simp only [List.foldl_cons, List.foldl_nil, Act.put, List.setIfInBounds_toArray, List.set_cons_zero, List.set_cons_succ, ptrTo]
          obtain ⟨hv0, hv1, hv2, hv3, hv4, hv5, hv6, hv7, hv8, hv9, hv10, hv11, hv12, hv13, hv14, hv15, hv16, hv17, hv18, hv19, hv20, hv21, hv22, hv23, -⟩ := hv
          clear hd
          have hV0 : (fun x _ => x = .slice A113 4 c113) (X 67) w7 := hv0; clear hv0; have hv0 := hV0; clear hV0; generalize X 67 = X67 at *
          have hV1 : (fun x _ => x = .agg #[.int .i64 (sg (x0)), .slice P11 p11 g11, .int .i64 (sg (y0)), .slice Q11 q11 h11]) (X 68) w7 := hv1; clear hv1; have hv1 := hV1; clear hV1; generalize X 68 = X68 at *
          have hV2 : (fun x _ => x = .agg #[.int .i64 (sg (x0)), .slice P11 p11 g11, .int .i64 (sg (y0)), .slice Q11 q11 h11]) (X 69) w7 := hv2; clear hv2; have hv2 := hV2; clear hV2; generalize X 69 = X69 at *
          have hV3 : (fun x w => ∃ (A : Option Addr) (n c : Nat), x = .agg #[.int .i64 (sg ((x0) * (x0) + (y0) * (y0))), .slice A n c] ∧ Nm w A n c ((x0) * (x0) + (y0) * (y0)) ∧ n ≤ 2 * 10 + 1) (X 70) w7 := hv3; clear hv3; have hv3 := hV3; clear hV3; generalize X 70 = X70 at *
          have hV4 : (fun x _ => x = .bool true) (X 71) w7 := hv4; clear hv4; have hv4 := hV4; clear hV4; generalize X 71 = X71 at *
          have hV5 : (fun x _ => x = .bool false) (X 72) w7 := hv5; clear hv5; have hv5 := hV5; clear hV5; generalize X 72 = X72 at *
          have hV6 : (fun x _ => x = .bool false) (X 73) w7 := hv6; clear hv6; have hv6 := hV6; clear hV6; generalize X 73 = X73 at *
          have hV7 : (fun x _ => x = .pointer (some ⟨b10, 0, none⟩)) (X 74) w7 := hv7; clear hv7; have hv7 := hV7; clear hV7; generalize X 74 = X74 at *
          have hV8 : (fun x _ => x = .slice U10 2 u10) (X 75) w7 := hv8; clear hv8; have hv8 := hV8; clear hV8; generalize X 75 = X75 at *
          have hV9 : (fun x _ => x = .pointer (some ⟨w5.heap.size, 0, none⟩)) (X 76) w7 := hv9; clear hv9; have hv9 := hV9; clear hV9; generalize X 76 = X76 at *
          have hV10 : (fun x _ => x = .agg #[.int .i64 (sg (x0)), .slice P11 p11 g11]) (X 77) w7 := hv10; clear hv10; have hv10 := hV10; clear hV10; generalize X 77 = X77 at *
          have hV11 : (fun x w => ∃ (A : Option Addr) (n c : Nat), x = .agg #[.int .i64 (sg (-x0)), .slice A n c] ∧ Nm w A n c (-x0) ∧ n ≤ 10) (X 78) w7 := hv11; clear hv11; have hv11 := hV11; clear hV11; generalize X 78 = X78 at *
          have hV12 : (fun x _ => x = .bool true) (X 79) w7 := hv12; clear hv12; have hv12 := hV12; clear hV12; generalize X 79 = X79 at *
          have hV13 : (fun x _ => x = .bool false) (X 80) w7 := hv13; clear hv13; have hv13 := hV13; clear hV13; generalize X 80 = X80 at *
          have hV14 : (fun x _ => x = .bool false) (X 81) w7 := hv14; clear hv14; have hv14 := hV14; clear hV14; generalize X 81 = X81 at *
          have hV15 : (fun x _ => x = .bool false) (X 82) w7 := hv15; clear hv15; have hv15 := hV15; clear hV15; generalize X 82 = X82 at *
          have hV16 : (fun x _ => x = .pointer (some ⟨b10, 1, none⟩)) (X 83) w7 := hv16; clear hv16; have hv16 := hV16; clear hV16; generalize X 83 = X83 at *
          have hV17 : (fun x _ => x = .slice V10 2 v10) (X 84) w7 := hv17; clear hv17; have hv17 := hV17; clear hV17; generalize X 84 = X84 at *
          have hV18 : (fun x _ => x = .pointer (some ⟨w5.heap.size, 2, none⟩)) (X 85) w7 := hv18; clear hv18; have hv18 := hV18; clear hV18; generalize X 85 = X85 at *
          have hV19 : (fun x _ => x = .agg #[.int .i64 (sg (y0)), .slice Q11 q11 h11]) (X 86) w7 := hv19; clear hv19; have hv19 := hV19; clear hV19; generalize X 86 = X86 at *
          have hV20 : (fun x w => ∃ (A : Option Addr) (n c : Nat), x = .agg #[.int .i64 (sg (-y0)), .slice A n c] ∧ Nm w A n c (-y0) ∧ n ≤ 10) (X 87) w7 := hv20; clear hv20; have hv20 := hV20; clear hV20; generalize X 87 = X87 at *
          have hV21 : (fun x _ => x = .bool true) (X 88) w7 := hv21; clear hv21; have hv21 := hV21; clear hV21; generalize X 88 = X88 at *
          have hV22 : (fun x _ => x = .bool false) (X 89) w7 := hv22; clear hv22; have hv22 := hV22; clear hV22; generalize X 89 = X89 at *
          have hV23 : (fun x _ => x = .bool false) (X 90) w7 := hv23; clear hv23; have hv23 := hV23; clear hV23; generalize X 90 = X90 at *
          obtain rfl := hv0
          obtain rfl := hv1
          obtain rfl := hv2
          clear hv3
          obtain rfl := hv4
          obtain rfl := hv5
          obtain rfl := hv6
          obtain rfl := hv7
          obtain rfl := hv8
          obtain rfl := hv9
          obtain rfl := hv10
          clear hv11
          obtain rfl := hv12
          obtain rfl := hv13
          obtain rfl := hv14
          obtain rfl := hv15
          obtain rfl := hv16
          obtain rfl := hv17
          obtain rfl := hv18
          obtain rfl := hv19
          clear hv20
          obtain rfl := hv21
          obtain rfl := hv22
          obtain rfl := hv23
          have RC := Lib.hid (below_tr RB6.out hb); clear hb
          have FS0_7 := Lib.hid (FS0_6.out.below RC.out (Nat.le_refl _))
          have FT0_7 := Lib.hid (FT0_6.out.below RC.out (Nat.le_refl _))
          have FS1_7 := Lib.hid (FS1_6.out.below RC.out (Nat.le_refl _))
          have FT1_7 := Lib.hid (FT1_6.out.below RC.out (Nat.le_refl _))
          have FP_7 := Lib.hid (FP_6.out.below RC.out (Nat.le_refl _))
          have FQ_7 := Lib.hid (FQ_6.out.below RC.out (Nat.le_refl _))
          have FB5_7 := Lib.hid (FB5_6.out.below RC.out (Nat.le_refl _))
          have FB6_7 := Lib.hid (FB6_6.out.below RC.out (Nat.le_refl _))
          have FB10_7 := Lib.hid (FB10_6.out.below RC.out (Nat.le_refl _))
          have FS10_7 := Lib.hid (FS10_6.out.below RC.out (Nat.le_refl _))
          have FT10_7 := Lib.hid (FT10_6.out.below RC.out (Nat.le_refl _))
          have FS111_7 := Lib.hid (FS111_6.out.below RC.out (Nat.le_refl _))
          have FS112_7 := Lib.hid (FS112_6.out.below RC.out (Nat.le_refl _))
          have FS113_7 := Lib.hid (FS113_6.out.below RC.out (Nat.le_refl _))
          have FM11_7 := Lib.hid (FM11_6.out.below RC.out (Nat.le_refl _))
          have FN11_7 := Lib.hid (FN11_6.out.below RC.out (Nat.le_refl _))
          have FB11_7 := Lib.hid (FB11_6.out.below RC.out (Nat.le_refl _))
          have HB7 := Lib.hid (HB6.out.trans (RC.out.mono HB6.out.size))
          clear HB6 FS0_6 FT0_6 FS1_6 FT1_6 FP_6 FQ_6 FB5_6 FB6_6 FB10_6 FS10_6 FT10_6 FS111_6 FS112_6 FS113_6 FM11_6 FN11_6 FB11_6 RC RB6
          have vQ0 := FQ_7.out.cell 0 (v := .slice A1 2 c1) rfl
          have vQ1 := FQ_7.out.cell 1 (v := .slice B1 2 d1_) rfl
          go_wp2_with fail
          refine (law5_is _ _ 2 2 _ _ _).mono ?_
          rintro e w8 ⟨rfl, B⟩
          clear vQ0 vQ1
          have HB8 := Lib.hid (HB7.out.trans (B.mono HB7.out.size))
          have FS0_8 := Lib.hid (FS0_7.out.below B (Nat.le_refl _))
          have FT0_8 := Lib.hid (FT0_7.out.below B (Nat.le_refl _))
          have FS1_8 := Lib.hid (FS1_7.out.below B (Nat.le_refl _))
          have FT1_8 := Lib.hid (FT1_7.out.below B (Nat.le_refl _))
          have FP_8 := Lib.hid (FP_7.out.below B (Nat.le_refl _))
          have FQ_8 := Lib.hid (FQ_7.out.below B (Nat.le_refl _))
          have FB5_8 := Lib.hid (FB5_7.out.below B (Nat.le_refl _))
          have FB6_8 := Lib.hid (FB6_7.out.below B (Nat.le_refl _))
          have FB10_8 := Lib.hid (FB10_7.out.below B (Nat.le_refl _))
          have FS10_8 := Lib.hid (FS10_7.out.below B (Nat.le_refl _))
          have FT10_8 := Lib.hid (FT10_7.out.below B (Nat.le_refl _))
          have FS111_8 := Lib.hid (FS111_7.out.below B (Nat.le_refl _))
          have FS112_8 := Lib.hid (FS112_7.out.below B (Nat.le_refl _))
          have FS113_8 := Lib.hid (FS113_7.out.below B (Nat.le_refl _))
          have FM11_8 := Lib.hid (FM11_7.out.below B (Nat.le_refl _))
          have FN11_8 := Lib.hid (FN11_7.out.below B (Nat.le_refl _))
          have FB11_8 := Lib.hid (FB11_7.out.below B (Nat.le_refl _))
          clear B  HB7 FS0_7 FT0_7 FS1_7 FT1_7 FP_7 FQ_7 FB5_7 FB6_7 FB10_7 FS10_7 FT10_7 FS111_7 FS112_7 FS113_7 FM11_7 FN11_7 FB11_7
          rw [show vB 2 2 = true from rfl]
          have vQ0 := FQ_8.out.cell 0 (v := .slice A1 2 c1) rfl
          have vQ1 := FQ_8.out.cell 1 (v := .slice B1 2 d1_) rfl
          go_wp2_with fail
          refine (law5_value _ _ 2 2 _ _ _ _ _ FS1_8.out FT1_8.out HF1.out HG1.out (by omega) (by omega)).mono ?_
          rintro e w9 ⟨⟨P12, p12, g12, Q12, q12, h12, rfl, ⟨e12, f12⟩, M12, N12⟩, B⟩
          clear vQ0 vQ1
          have HB9 := Lib.hid (HB8.out.trans (B.mono HB8.out.size))
          have FS0_9 := Lib.hid (FS0_8.out.below B (Nat.le_refl _))
          have FT0_9 := Lib.hid (FT0_8.out.below B (Nat.le_refl _))
          have FS1_9 := Lib.hid (FS1_8.out.below B (Nat.le_refl _))
          have FT1_9 := Lib.hid (FT1_8.out.below B (Nat.le_refl _))
          have FP_9 := Lib.hid (FP_8.out.below B (Nat.le_refl _))
          have FQ_9 := Lib.hid (FQ_8.out.below B (Nat.le_refl _))
          have FB5_9 := Lib.hid (FB5_8.out.below B (Nat.le_refl _))
          have FB6_9 := Lib.hid (FB6_8.out.below B (Nat.le_refl _))
          have FB10_9 := Lib.hid (FB10_8.out.below B (Nat.le_refl _))
          have FS10_9 := Lib.hid (FS10_8.out.below B (Nat.le_refl _))
          have FT10_9 := Lib.hid (FT10_8.out.below B (Nat.le_refl _))
          have FS111_9 := Lib.hid (FS111_8.out.below B (Nat.le_refl _))
          have FS112_9 := Lib.hid (FS112_8.out.below B (Nat.le_refl _))
          have FS113_9 := Lib.hid (FS113_8.out.below B (Nat.le_refl _))
          have FM11_9 := Lib.hid (FM11_8.out.below B (Nat.le_refl _))
          have FN11_9 := Lib.hid (FN11_8.out.below B (Nat.le_refl _))
          have FB11_9 := Lib.hid (FB11_8.out.below B (Nat.le_refl _))
          have FM12_9 := Lib.hid M12
          have FN12_9 := Lib.hid N12
          clear B M12 N12 HB8 FS0_8 FT0_8 FS1_8 FT1_8 FP_8 FQ_8 FB5_8 FB6_8 FB10_8 FS10_8 FT10_8 FS111_8 FS112_8 FS113_8 FM11_8 FN11_8 FB11_8
          go_upto_region 13 with (fail)
          have B : Below w.heap.size w (w9.alloc (.cells #[.int .i64 (sg (x1)), .slice P12 p12 g12, .int .i64 (sg (y1)), .slice Q12 q12 h12] 32)) := (HB9.out.alloc HB9.out.size _)
          have C : Below w9.heap.size w9 (w9.alloc (.cells #[.int .i64 (sg (x1)), .slice P12 p12 g12, .int .i64 (sg (y1)), .slice Q12 q12 h12] 32)) := ((Below.refl w9.heap.size w9).alloc (Nat.le_refl _) _)
          have X0 : Bx (w9.alloc (.cells #[.int .i64 (sg (x1)), .slice P12 p12 g12, .int .i64 (sg (y1)), .slice Q12 q12 h12] 32)) (w9.heap.size) #[.int .i64 (sg (x1)), .slice P12 p12 g12, .int .i64 (sg (y1)), .slice Q12 q12 h12] 32 := by simpa using (Bx.new w9 #[.int .i64 (sg (x1)), .slice P12 p12 g12, .int .i64 (sg (y1)), .slice Q12 q12 h12] 32)
          have FS0_10 := Lib.hid (FS0_9.out.below C (Nat.le_refl _))
          have FT0_10 := Lib.hid (FT0_9.out.below C (Nat.le_refl _))
          have FS1_10 := Lib.hid (FS1_9.out.below C (Nat.le_refl _))
          have FT1_10 := Lib.hid (FT1_9.out.below C (Nat.le_refl _))
          have FP_10 := Lib.hid (FP_9.out.below C (Nat.le_refl _))
          have FQ_10 := Lib.hid (FQ_9.out.below C (Nat.le_refl _))
          have FB5_10 := Lib.hid (FB5_9.out.below C (Nat.le_refl _))
          have FB6_10 := Lib.hid (FB6_9.out.below C (Nat.le_refl _))
          have FB10_10 := Lib.hid (FB10_9.out.below C (Nat.le_refl _))
          have FS10_10 := Lib.hid (FS10_9.out.below C (Nat.le_refl _))
          have FT10_10 := Lib.hid (FT10_9.out.below C (Nat.le_refl _))
          have FS111_10 := Lib.hid (FS111_9.out.below C (Nat.le_refl _))
          have FS112_10 := Lib.hid (FS112_9.out.below C (Nat.le_refl _))
          have FS113_10 := Lib.hid (FS113_9.out.below C (Nat.le_refl _))
          have FM11_10 := Lib.hid (FM11_9.out.below C (Nat.le_refl _))
          have FN11_10 := Lib.hid (FN11_9.out.below C (Nat.le_refl _))
          have FB11_10 := Lib.hid (FB11_9.out.below C (Nat.le_refl _))
          have FM12_10 := Lib.hid (FM12_9.out.below C (Nat.le_refl _))
          have FN12_10 := Lib.hid (FN12_9.out.below C (Nat.le_refl _))
          have HB10 := Lib.hid B
          have FB12_10 := Lib.hid X0
          clear B C X0 HB9 FS0_9 FT0_9 FS1_9 FT1_9 FP_9 FQ_9 FB5_9 FB6_9 FB10_9 FS10_9 FT10_9 FS111_9 FS112_9 FS113_9 FM11_9 FN11_9 FB11_9 FM12_9 FN12_9
          generalize (w9.alloc (.cells #[.int .i64 (sg (x1)), .slice P12 p12 g12, .int .i64 (sg (y1)), .slice Q12 q12 h12] 32)) = w10 at *
          go_wp2_with fail
          refine (alive5 _).mono ?_
          rintro e w11 ⟨rfl, B⟩
          have HB11 := Lib.hid (HB10.out.trans (B.mono HB10.out.size))
          have FS0_11 := Lib.hid (FS0_10.out.below B (Nat.le_refl _))
          have FT0_11 := Lib.hid (FT0_10.out.below B (Nat.le_refl _))
          have FS1_11 := Lib.hid (FS1_10.out.below B (Nat.le_refl _))
          have FT1_11 := Lib.hid (FT1_10.out.below B (Nat.le_refl _))
          have FP_11 := Lib.hid (FP_10.out.below B (Nat.le_refl _))
          have FQ_11 := Lib.hid (FQ_10.out.below B (Nat.le_refl _))
          have FB5_11 := Lib.hid (FB5_10.out.below B (Nat.le_refl _))
          have FB6_11 := Lib.hid (FB6_10.out.below B (Nat.le_refl _))
          have FB10_11 := Lib.hid (FB10_10.out.below B (Nat.le_refl _))
          have FS10_11 := Lib.hid (FS10_10.out.below B (Nat.le_refl _))
          have FT10_11 := Lib.hid (FT10_10.out.below B (Nat.le_refl _))
          have FS111_11 := Lib.hid (FS111_10.out.below B (Nat.le_refl _))
          have FS112_11 := Lib.hid (FS112_10.out.below B (Nat.le_refl _))
          have FS113_11 := Lib.hid (FS113_10.out.below B (Nat.le_refl _))
          have FM11_11 := Lib.hid (FM11_10.out.below B (Nat.le_refl _))
          have FN11_11 := Lib.hid (FN11_10.out.below B (Nat.le_refl _))
          have FB11_11 := Lib.hid (FB11_10.out.below B (Nat.le_refl _))
          have FM12_11 := Lib.hid (FM12_10.out.below B (Nat.le_refl _))
          have FN12_11 := Lib.hid (FN12_10.out.below B (Nat.le_refl _))
          have FB12_11 := Lib.hid (FB12_10.out.below B (Nat.le_refl _))
          clear B  HB10 FS0_10 FT0_10 FS1_10 FT1_10 FP_10 FQ_10 FB5_10 FB6_10 FB10_10 FS10_10 FT10_10 FS111_10 FS112_10 FS113_10 FM11_10 FN11_10 FB11_10 FM12_10 FN12_10 FB12_10
          have vB110 := FB11_11.out.cell 0 (v := .int .i64 (sg (x0))) rfl
          have vB111 := FB11_11.out.cell 1 (v := .slice P11 p11 g11) rfl
          have vB112 := FB11_11.out.cell 2 (v := .int .i64 (sg (y0))) rfl
          have vB113 := FB11_11.out.cell 3 (v := .slice Q11 q11 h11) rfl
          have vB120 := FB12_11.out.cell 0 (v := .int .i64 (sg (x1))) rfl
          have vB121 := FB12_11.out.cell 1 (v := .slice P12 p12 g12) rfl
          have vB122 := FB12_11.out.cell 2 (v := .int .i64 (sg (y1))) rfl
          have vB123 := FB12_11.out.cell 3 (v := .slice Q12 q12 h12) rfl
          go_wp2_with fail
          refine (ref5_Cross _ _ _ _ _ _ _ _ _ _ _ _ _ _ _ _ _ FM11_11.out FN11_11.out FM12_11.out FN12_11.out 10 (by omega) e11 f11 e12 f12).mono ?_
          rintro e w12 ⟨⟨A211, n211, c211, rfl, b211, K211⟩, B⟩
          clear vB110 vB111 vB112 vB113 vB120 vB121 vB122 vB123
          have HB12 := Lib.hid (HB11.out.trans (B.mono HB11.out.size))
          have FS0_12 := Lib.hid (FS0_11.out.below B (Nat.le_refl _))
          have FT0_12 := Lib.hid (FT0_11.out.below B (Nat.le_refl _))
          have FS1_12 := Lib.hid (FS1_11.out.below B (Nat.le_refl _))
          have FT1_12 := Lib.hid (FT1_11.out.below B (Nat.le_refl _))
          have FP_12 := Lib.hid (FP_11.out.below B (Nat.le_refl _))
          have FQ_12 := Lib.hid (FQ_11.out.below B (Nat.le_refl _))
          have FB5_12 := Lib.hid (FB5_11.out.below B (Nat.le_refl _))
          have FB6_12 := Lib.hid (FB6_11.out.below B (Nat.le_refl _))
          have FB10_12 := Lib.hid (FB10_11.out.below B (Nat.le_refl _))
          have FS10_12 := Lib.hid (FS10_11.out.below B (Nat.le_refl _))
          have FT10_12 := Lib.hid (FT10_11.out.below B (Nat.le_refl _))
          have FS111_12 := Lib.hid (FS111_11.out.below B (Nat.le_refl _))
          have FS112_12 := Lib.hid (FS112_11.out.below B (Nat.le_refl _))
          have FS113_12 := Lib.hid (FS113_11.out.below B (Nat.le_refl _))
          have FM11_12 := Lib.hid (FM11_11.out.below B (Nat.le_refl _))
          have FN11_12 := Lib.hid (FN11_11.out.below B (Nat.le_refl _))
          have FB11_12 := Lib.hid (FB11_11.out.below B (Nat.le_refl _))
          have FM12_12 := Lib.hid (FM12_11.out.below B (Nat.le_refl _))
          have FN12_12 := Lib.hid (FN12_11.out.below B (Nat.le_refl _))
          have FB12_12 := Lib.hid (FB12_11.out.below B (Nat.le_refl _))
          have FK111_12 := Lib.hid K211
          clear B K211 HB11 FS0_11 FT0_11 FS1_11 FT1_11 FP_11 FQ_11 FB5_11 FB6_11 FB10_11 FS10_11 FT10_11 FS111_11 FS112_11 FS113_11 FM11_11 FN11_11 FB11_11 FM12_11 FN12_11 FB12_11
          go_wp2_with fail
          refine (law5_limbs _ _ 4 _ _ _ ((x0) * (y1) - (y0) * (x1)) ((x0) * (y1) - (y0) * (x1)) 4 rfl _ FS111_12.out FK111_12.out (fun _ _ => rfl) (by omega) (by omega)).mono ?_
          rintro e w13 ⟨rfl, B⟩
          have HB13 := Lib.hid (HB12.out.trans (B.mono HB12.out.size))
          have FS0_13 := Lib.hid (FS0_12.out.below B (Nat.le_refl _))
          have FT0_13 := Lib.hid (FT0_12.out.below B (Nat.le_refl _))
          have FS1_13 := Lib.hid (FS1_12.out.below B (Nat.le_refl _))
          have FT1_13 := Lib.hid (FT1_12.out.below B (Nat.le_refl _))
          have FP_13 := Lib.hid (FP_12.out.below B (Nat.le_refl _))
          have FQ_13 := Lib.hid (FQ_12.out.below B (Nat.le_refl _))
          have FB5_13 := Lib.hid (FB5_12.out.below B (Nat.le_refl _))
          have FB6_13 := Lib.hid (FB6_12.out.below B (Nat.le_refl _))
          have FB10_13 := Lib.hid (FB10_12.out.below B (Nat.le_refl _))
          have FS10_13 := Lib.hid (FS10_12.out.below B (Nat.le_refl _))
          have FT10_13 := Lib.hid (FT10_12.out.below B (Nat.le_refl _))
          have FS111_13 := Lib.hid (FS111_12.out.below B (Nat.le_refl _))
          have FS112_13 := Lib.hid (FS112_12.out.below B (Nat.le_refl _))
          have FS113_13 := Lib.hid (FS113_12.out.below B (Nat.le_refl _))
          have FM11_13 := Lib.hid (FM11_12.out.below B (Nat.le_refl _))
          have FN11_13 := Lib.hid (FN11_12.out.below B (Nat.le_refl _))
          have FB11_13 := Lib.hid (FB11_12.out.below B (Nat.le_refl _))
          have FM12_13 := Lib.hid (FM12_12.out.below B (Nat.le_refl _))
          have FN12_13 := Lib.hid (FN12_12.out.below B (Nat.le_refl _))
          have FB12_13 := Lib.hid (FB12_12.out.below B (Nat.le_refl _))
          have FK111_13 := Lib.hid (FK111_12.out.below B (Nat.le_refl _))
          clear B  HB12 FS0_12 FT0_12 FS1_12 FT1_12 FP_12 FQ_12 FB5_12 FB6_12 FB10_12 FS10_12 FT10_12 FS111_12 FS112_12 FS113_12 FM11_12 FN11_12 FB11_12 FM12_12 FN12_12 FB12_12 FK111_12
          have vB110 := FB11_13.out.cell 0 (v := .int .i64 (sg (x0))) rfl
          have vB111 := FB11_13.out.cell 1 (v := .slice P11 p11 g11) rfl
          have vB112 := FB11_13.out.cell 2 (v := .int .i64 (sg (y0))) rfl
          have vB113 := FB11_13.out.cell 3 (v := .slice Q11 q11 h11) rfl
          have vB120 := FB12_13.out.cell 0 (v := .int .i64 (sg (x1))) rfl
          have vB121 := FB12_13.out.cell 1 (v := .slice P12 p12 g12) rfl
          have vB122 := FB12_13.out.cell 2 (v := .int .i64 (sg (y1))) rfl
          have vB123 := FB12_13.out.cell 3 (v := .slice Q12 q12 h12) rfl
          go_wp2_with fail
          refine (ref5_Dot _ _ _ _ _ _ _ _ _ _ _ _ _ _ _ _ _ FM11_13.out FN11_13.out FM12_13.out FN12_13.out 10 (by omega) e11 f11 e12 f12).mono ?_
          rintro e w14 ⟨⟨A212, n212, c212, rfl, b212, K212⟩, B⟩
          clear vB110 vB111 vB112 vB113 vB120 vB121 vB122 vB123
          have HB14 := Lib.hid (HB13.out.trans (B.mono HB13.out.size))
          have FS0_14 := Lib.hid (FS0_13.out.below B (Nat.le_refl _))
          have FT0_14 := Lib.hid (FT0_13.out.below B (Nat.le_refl _))
          have FS1_14 := Lib.hid (FS1_13.out.below B (Nat.le_refl _))
          have FT1_14 := Lib.hid (FT1_13.out.below B (Nat.le_refl _))
          have FP_14 := Lib.hid (FP_13.out.below B (Nat.le_refl _))
          have FQ_14 := Lib.hid (FQ_13.out.below B (Nat.le_refl _))
          have FB5_14 := Lib.hid (FB5_13.out.below B (Nat.le_refl _))
          have FB6_14 := Lib.hid (FB6_13.out.below B (Nat.le_refl _))
          have FB10_14 := Lib.hid (FB10_13.out.below B (Nat.le_refl _))
          have FS10_14 := Lib.hid (FS10_13.out.below B (Nat.le_refl _))
          have FT10_14 := Lib.hid (FT10_13.out.below B (Nat.le_refl _))
          have FS111_14 := Lib.hid (FS111_13.out.below B (Nat.le_refl _))
          have FS112_14 := Lib.hid (FS112_13.out.below B (Nat.le_refl _))
          have FS113_14 := Lib.hid (FS113_13.out.below B (Nat.le_refl _))
          have FM11_14 := Lib.hid (FM11_13.out.below B (Nat.le_refl _))
          have FN11_14 := Lib.hid (FN11_13.out.below B (Nat.le_refl _))
          have FB11_14 := Lib.hid (FB11_13.out.below B (Nat.le_refl _))
          have FM12_14 := Lib.hid (FM12_13.out.below B (Nat.le_refl _))
          have FN12_14 := Lib.hid (FN12_13.out.below B (Nat.le_refl _))
          have FB12_14 := Lib.hid (FB12_13.out.below B (Nat.le_refl _))
          have FK111_14 := Lib.hid (FK111_13.out.below B (Nat.le_refl _))
          have FK112_14 := Lib.hid K212
          clear B K212 HB13 FS0_13 FT0_13 FS1_13 FT1_13 FP_13 FQ_13 FB5_13 FB6_13 FB10_13 FS10_13 FT10_13 FS111_13 FS112_13 FS113_13 FM11_13 FN11_13 FB11_13 FM12_13 FN12_13 FB12_13 FK111_13
          go_wp2_with fail
          refine (law5_limbs _ _ 4 _ _ _ ((x0) * (x1) + (y0) * (y1)) ((x0) * (x1) + (y0) * (y1)) 4 rfl _ FS112_14.out FK112_14.out (fun _ _ => rfl) (by omega) (by omega)).mono ?_
          rintro e w15 ⟨rfl, B⟩
          have HB15 := Lib.hid (HB14.out.trans (B.mono HB14.out.size))
          have FS0_15 := Lib.hid (FS0_14.out.below B (Nat.le_refl _))
          have FT0_15 := Lib.hid (FT0_14.out.below B (Nat.le_refl _))
          have FS1_15 := Lib.hid (FS1_14.out.below B (Nat.le_refl _))
          have FT1_15 := Lib.hid (FT1_14.out.below B (Nat.le_refl _))
          have FP_15 := Lib.hid (FP_14.out.below B (Nat.le_refl _))
          have FQ_15 := Lib.hid (FQ_14.out.below B (Nat.le_refl _))
          have FB5_15 := Lib.hid (FB5_14.out.below B (Nat.le_refl _))
          have FB6_15 := Lib.hid (FB6_14.out.below B (Nat.le_refl _))
          have FB10_15 := Lib.hid (FB10_14.out.below B (Nat.le_refl _))
          have FS10_15 := Lib.hid (FS10_14.out.below B (Nat.le_refl _))
          have FT10_15 := Lib.hid (FT10_14.out.below B (Nat.le_refl _))
          have FS111_15 := Lib.hid (FS111_14.out.below B (Nat.le_refl _))
          have FS112_15 := Lib.hid (FS112_14.out.below B (Nat.le_refl _))
          have FS113_15 := Lib.hid (FS113_14.out.below B (Nat.le_refl _))
          have FM11_15 := Lib.hid (FM11_14.out.below B (Nat.le_refl _))
          have FN11_15 := Lib.hid (FN11_14.out.below B (Nat.le_refl _))
          have FB11_15 := Lib.hid (FB11_14.out.below B (Nat.le_refl _))
          have FM12_15 := Lib.hid (FM12_14.out.below B (Nat.le_refl _))
          have FN12_15 := Lib.hid (FN12_14.out.below B (Nat.le_refl _))
          have FB12_15 := Lib.hid (FB12_14.out.below B (Nat.le_refl _))
          have FK111_15 := Lib.hid (FK111_14.out.below B (Nat.le_refl _))
          have FK112_15 := Lib.hid (FK112_14.out.below B (Nat.le_refl _))
          clear B  HB14 FS0_14 FT0_14 FS1_14 FT1_14 FP_14 FQ_14 FB5_14 FB6_14 FB10_14 FS10_14 FT10_14 FS111_14 FS112_14 FS113_14 FM11_14 FN11_14 FB11_14 FM12_14 FN12_14 FB12_14 FK111_14 FK112_14
          go_wp2_with fail
          go_ret
          exact ⟨rfl, HB15.out⟩

set_option maxRecDepth 100000 in
theorem lifted (os : Os) (started : os.Started) (H : Type) (enc : TypeId × Value → H) :
    ReturnsInHanded {} Try.checked os 5 .any (Rows.diffVectorsSpec.pre6 enc Try.prog Try.f5 Rows.diffVectorsRow.domain false) (Rows.diffVectorsSpec.post enc Try.prog Try.f5 false true false false) := by
  refine returnsInHanded_of_change (C := Try.checked) own started (by kernel_rfl) Try.func5
    (ChangeSpec.witness6 (enc := enc) (C := Try.checked) false ⟨#[], #[.agg #[.slice none 0 0, .slice none 0 0], .agg #[.slice none 0 0, .slice none 0 0]], []⟩ 8 (by kernel_rfl) (by kernel_rfl) (by kernel_rfl) (by kernel_rfl)) ?_
  intro W base args ds gs before hval0 hW hcnd _
  have hval : ∀ (j : Nat) t v, Try.f5.params[j]? = some t → args[j]? = some v → Value.okWide Try.prog W .any base t v := hval0
  have hW' := hW
  obtain ⟨p, q, hA0, hV, rfl, hfz, hnd⟩ := hW
  have hA : DataW.TrodAll enc Try.prog W 0 (fun _ => true) true Try.f5.params.toList args.toList ds p := hA0
  rw [Try.params5] at hA hval
  obtain ⟨v0, vs0, d0, ds0, p0, q0, hargs, rfl, rfl, h0, r0⟩ := trodAll_cons hA
  obtain ⟨v1, vs1, d1, ds1, p1, q1, rfl, rfl, rfl, h1, r1⟩ := trodAll_cons r0
  obtain ⟨rfl, rfl, rfl⟩ := trodAll_nil r1
  obtain rfl : args = #[v0, v1] := by cases args; simp_all
  obtain ⟨rfl, rfl⟩ := trodVars_none hV
  have k0 := h0
  have lt0 : ∀ x ∈ p0, x.block < W.heap.size := by obtain ⟨m, hm⟩ := k0; exact DataW.trod_lt m _ _ _ hm
  have k1 := h1
  have lt1 : ∀ x ∈ p1, x.block < W.heap.size := by obtain ⟨m, hm⟩ := k1; exact DataW.trod_lt m _ _ _ hm
  obtain ⟨A0, n0, c0, x0, B0, l0, d0_, y0, rfl, f0, s0, g0, t0⟩ := Op.open_vec (w := W) Try.underlying43 rfl rfl rfl rfl Try.underlying24 Try.underlying54 (by kernel_rfl) (by kernel_rfl) (by kernel_rfl) h0
  obtain ⟨A1, n1, c1, x1, B1, l1, d1_, y1, rfl, f1, s1, g1, t1⟩ := Op.open_vec (w := W) Try.underlying43 rfl rfl rfl rfl Try.underlying24 Try.underlying54 (by kernel_rfl) (by kernel_rfl) (by kernel_rfl) h1
  clear hA0 hval0
  refine (walk A0 n0 c0 x0 B0 l0 d0_ y0 f0 s0 g0 t0 A1 n1 c1 x1 B1 l1 d1_ y1 f1 s1 g1 t1).mono fun e W' ⟨he, bel⟩ => ?_
  subst he
  exact ⟨_, rfl, _, _, _, [], _, [], hW', trodAll_mk1 (shut_bool Try.underlying4 _), (trodAll_cons_mk (Below.trod laidOut (by kernel_rfl) (of_decide_eq_true (by kernel_rfl)) k0 bel lt0) (trodAll_cons_mk (Below.trod laidOut (by kernel_rfl) (of_decide_eq_true (by kernel_rfl)) k1 bel lt1) trodAll_mk0)), rfl, bel.frame _, fun h => by cases h⟩

theorem over : Rows.diffVectorsRow.holds Try.pinned (OpenSpec.ofChange Rows.diffVectorsSpec) :=
  OpenClaim.holds_of_wide 5 Try.f5 rfl rfl rfl rfl rfl rfl rfl ⟨rfl, rfl, rfl, rfl, rfl⟩ rfl rfl rfl rfl rfl (by kernel_rfl) Try.func5 (by kernel_rfl)
    (of_decide_eq_true (by kernel_rfl)) (by unfold Func.isWrapper; first | (rw [if_pos (by decide +kernel)]; kernel_rfl) | (rw [if_neg (by decide +kernel)]; exact ⟨rfl, rfl⟩))
    (fun os started H enc _ => lifted os started H enc)

/-- THE STATEMENT -/
theorem proved : Rows.DiffVectorsSaid := over
#print axioms proved
end Go.Proofs.Ytfjanlfbnliokaa.diffVectors
