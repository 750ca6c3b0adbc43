/- DiffCoordinates: for every input the law returns true, and each argument reads afterwards as it read before. -/
import Derived.Test.YtfjanlfbnliokaaRows
import Derived.Test.YtfjanlfbnliokaaLaw5
import Derived.Test.YtfjanlfbnliokaaOpenPt
import Derived.WalkKit
import Derived.ProofKit
import Derived.OpenShut
import Derived.Below
namespace Go.Proofs.Ytfjanlfbnliokaa.diffCoordinates
open Go.ChangeShapes Go.WideShapes Go.ChangeAt Go.RowKit Wd
set_option linter.unusedVariables false
set_option linter.unusedSimpArgs false

theorem own : ownKnob Try.prog.godebug = none := by kernel_rfl
theorem laidOut : laidOutB Try.prog = true := by kernel_rfl

set_option maxHeartbeats 4000000 in
theorem walk {w : World} (a0 b0 : Int) (w0 : (Lit.int .i64 a0).wf = true) (x0 : (Lit.int .i64 b0).wf = true) (a1 b1 : Int) (w1 : (Lit.int .i64 a1).wf = true) (x1 : (Lit.int .i64 b1).wf = true)  :
    Calls Try.prog 3 #[.agg #[.int .i64 a0, .int .i64 b0], .agg #[.int .i64 a1, .int .i64 b1]] w fun e w' => e = .returned (.bool true) ∧ Below w.heap.size w w' := by
  have HB0 := Lib.hid (Below.refl w.heap.size w)
  have ia0 := isI_of_wf w0
  have ib0 := isI_of_wf x0
  have ia1 := isI_of_wf w1
  have ib1 := isI_of_wf x1
  go_enter Try.func3, Try.ntmps3
  go_wp2_with fail
  have B : Below w.heap.size w ((w.alloc (.cells #[.int .i64 a0, .int .i64 b0] 23)).alloc (.cells #[.int .i64 a1, .int .i64 b1] 23)) := ((HB0.out.alloc HB0.out.size _).alloc (HB0.out.alloc HB0.out.size _).size _)
  have C : Below w.heap.size w ((w.alloc (.cells #[.int .i64 a0, .int .i64 b0] 23)).alloc (.cells #[.int .i64 a1, .int .i64 b1] 23)) := (((Below.refl w.heap.size w).alloc (Nat.le_refl _) _).alloc (by simp; try omega) _)
  have X0 : Bx ((w.alloc (.cells #[.int .i64 a0, .int .i64 b0] 23)).alloc (.cells #[.int .i64 a1, .int .i64 b1] 23)) (w.heap.size) #[.int .i64 a0, .int .i64 b0] 23 := by simpa using ((Bx.new w #[.int .i64 a0, .int .i64 b0] 23).alloc _)
  have X1 : Bx ((w.alloc (.cells #[.int .i64 a0, .int .i64 b0] 23)).alloc (.cells #[.int .i64 a1, .int .i64 b1] 23)) (w.heap.size + 1) #[.int .i64 a1, .int .i64 b1] 23 := by simpa using (Bx.new (w.alloc (.cells #[.int .i64 a0, .int .i64 b0] 23)) #[.int .i64 a1, .int .i64 b1] 23)
  have HB1 := Lib.hid B
  have FP_1 := Lib.hid X0
  have FQ_1 := Lib.hid X1
  clear B C X0 X1 HB0 
  generalize ((w.alloc (.cells #[.int .i64 a0, .int .i64 b0] 23)).alloc (.cells #[.int .i64 a1, .int .i64 b1] 23)) = w1 at *
  skip
  refine (diff_Between a0 b0 a1 b1 ia0 ib0 ia1 ib1 _).mono ?_
  rintro e w2 ⟨⟨U5, u5, V5, v5, rfl, S5, T5⟩, B⟩
  have HB2 := Lib.hid (HB1.out.trans (B.mono HB1.out.size))
  have FP_2 := Lib.hid (FP_1.out.below B (Nat.le_refl _))
  have FQ_2 := Lib.hid (FQ_1.out.below B (Nat.le_refl _))
  have FS5_2 := Lib.hid S5
  have FT5_2 := Lib.hid T5
  clear B S5 T5 HB1 FP_1 FQ_1
  go_upto_region 2 with (fail)
  have B : Below w.heap.size w (w2.alloc (.cells #[.slice U5 2 u5, .slice V5 2 v5] 26)) := (HB2.out.alloc HB2.out.size _)
  have C : Below w2.heap.size w2 (w2.alloc (.cells #[.slice U5 2 u5, .slice V5 2 v5] 26)) := ((Below.refl w2.heap.size w2).alloc (Nat.le_refl _) _)
  have X0 : Bx (w2.alloc (.cells #[.slice U5 2 u5, .slice V5 2 v5] 26)) (w2.heap.size) #[.slice U5 2 u5, .slice V5 2 v5] 26 := by simpa using (Bx.new w2 #[.slice U5 2 u5, .slice V5 2 v5] 26)
  have FP_3 := Lib.hid (FP_2.out.below C (Nat.le_refl _))
  have FQ_3 := Lib.hid (FQ_2.out.below C (Nat.le_refl _))
  have FS5_3 := Lib.hid (FS5_2.out.below C (Nat.le_refl _))
  have FT5_3 := Lib.hid (FT5_2.out.below C (Nat.le_refl _))
  have HB3 := Lib.hid B
  have FB5_3 := Lib.hid X0
  clear B C X0 HB2 FP_2 FQ_2 FS5_2 FT5_2
  generalize (w2.alloc (.cells #[.slice U5 2 u5, .slice V5 2 v5] 26)) = w3 at *
  have vP0 := FP_3.out.cell 0 (v := .int .i64 a0) rfl
  have vP1 := FP_3.out.cell 1 (v := .int .i64 b0) rfl
  have vQ0 := FQ_3.out.cell 0 (v := .int .i64 a1) rfl
  have vQ1 := FQ_3.out.cell 1 (v := .int .i64 b1) rfl
  go_wp2_with fail
  clear vP0 vP1 vQ0 vQ1
  skip
  refine (ref5_Between a0 b0 a1 b1 ia0 ib0 ia1 ib1 _).mono ?_
  rintro e w4 ⟨⟨P6, p6, g6, Q6, q6, h6, rfl, ⟨e6, f6⟩, M6, N6⟩, B⟩
  have HB4 := Lib.hid (HB3.out.trans (B.mono HB3.out.size))
  have FP_4 := Lib.hid (FP_3.out.below B (Nat.le_refl _))
  have FQ_4 := Lib.hid (FQ_3.out.below B (Nat.le_refl _))
  have FS5_4 := Lib.hid (FS5_3.out.below B (Nat.le_refl _))
  have FT5_4 := Lib.hid (FT5_3.out.below B (Nat.le_refl _))
  have FB5_4 := Lib.hid (FB5_3.out.below B (Nat.le_refl _))
  have FM6_4 := Lib.hid M6
  have FN6_4 := Lib.hid N6
  clear B M6 N6 HB3 FP_3 FQ_3 FS5_3 FT5_3 FB5_3
  go_upto_region 3 with (fail)
  have B : Below w.heap.size w (w4.alloc (.cells #[.int .i64 (sg (a1 - a0)), .slice P6 p6 g6, .int .i64 (sg (b1 - b0)), .slice Q6 q6 h6] 32)) := (HB4.out.alloc HB4.out.size _)
  have C : Below w4.heap.size w4 (w4.alloc (.cells #[.int .i64 (sg (a1 - a0)), .slice P6 p6 g6, .int .i64 (sg (b1 - b0)), .slice Q6 q6 h6] 32)) := ((Below.refl w4.heap.size w4).alloc (Nat.le_refl _) _)
  have X0 : Bx (w4.alloc (.cells #[.int .i64 (sg (a1 - a0)), .slice P6 p6 g6, .int .i64 (sg (b1 - b0)), .slice Q6 q6 h6] 32)) (w4.heap.size) #[.int .i64 (sg (a1 - a0)), .slice P6 p6 g6, .int .i64 (sg (b1 - b0)), .slice Q6 q6 h6] 32 := by simpa using (Bx.new w4 #[.int .i64 (sg (a1 - a0)), .slice P6 p6 g6, .int .i64 (sg (b1 - b0)), .slice Q6 q6 h6] 32)
  have FP_5 := Lib.hid (FP_4.out.below C (Nat.le_refl _))
  have FQ_5 := Lib.hid (FQ_4.out.below C (Nat.le_refl _))
  have FS5_5 := Lib.hid (FS5_4.out.below C (Nat.le_refl _))
  have FT5_5 := Lib.hid (FT5_4.out.below C (Nat.le_refl _))
  have FB5_5 := Lib.hid (FB5_4.out.below C (Nat.le_refl _))
  have FM6_5 := Lib.hid (FM6_4.out.below C (Nat.le_refl _))
  have FN6_5 := Lib.hid (FN6_4.out.below C (Nat.le_refl _))
  have HB5 := Lib.hid B
  have FB6_5 := Lib.hid X0
  clear B C X0 HB4 FP_4 FQ_4 FS5_4 FT5_4 FB5_4 FM6_4 FN6_4
  generalize (w4.alloc (.cells #[.int .i64 (sg (a1 - a0)), .slice P6 p6 g6, .int .i64 (sg (b1 - b0)), .slice Q6 q6 h6] 32)) = w5 at *
  have RB5 := Lib.hid (below_drew0 w5)
  refine wp_region_held_drew (S := fun _ => True) (by kernel_rfl) trivial (fun _ => ?_)
  refine wpAnyH_gen [] [⟨0, 13, fun x _ => x = .bool true⟩, ⟨1, 14, fun x _ => x = .bool true⟩, ⟨2, 15, fun x _ => x = .pointer (some ⟨w.heap.size, 0, none⟩)⟩, ⟨3, 16, fun x _ => x = .int .i64 a0⟩, ⟨4, 17, fun x _ => x = .pointer (some ⟨w.heap.size + 1, 1, none⟩)⟩, ⟨5, 18, fun x _ => x = .int .i64 b1⟩, ⟨6, 19, fun x w => ∃ (A : Option Addr) (c : Nat), x = .slice A 2 c ∧ Sl w .u64 A 2 c (lmb (a0 - b1))⟩, ⟨7, 20, fun x _ => x = .pointer (some ⟨w.heap.size, 0, none⟩)⟩, ⟨8, 21, fun x _ => x = .int .i64 a0⟩, ⟨9, 22, fun x _ => x = .pointer (some ⟨w.heap.size + 1, 1, none⟩)⟩, ⟨10, 23, fun x _ => x = .int .i64 b1⟩, ⟨11, 24, fun x w => ∃ (A : Option Addr) (n c : Nat), x = .agg #[.int .i64 (sg (a0 - b1)), .slice A n c] ∧ Nm w A n c (a0 - b1) ∧ n ≤ 5⟩, ⟨12, 25, fun x _ => x = .bool true⟩, ⟨13, 26, fun x _ => x = .bool true⟩, ⟨14, 27, fun x _ => x = .bool true⟩, ⟨15, 28, fun x _ => x = .pointer (some ⟨w2.heap.size, 0, none⟩)⟩, ⟨16, 29, fun x _ => x = .slice U5 2 u5⟩, ⟨17, 30, fun x _ => x = .pointer (some ⟨w4.heap.size, 0, none⟩)⟩, ⟨18, 31, fun x _ => x = .agg #[.int .i64 (sg (a1 - a0)), .slice P6 p6 g6]⟩, ⟨19, 32, fun x _ => x = .bool true⟩, ⟨20, 33, fun x _ => x = .bool true⟩, ⟨21, 34, fun x _ => x = .bool true⟩, ⟨22, 35, fun x _ => x = .pointer (some ⟨w2.heap.size, 1, none⟩)⟩, ⟨23, 36, fun x _ => x = .slice V5 2 v5⟩, ⟨24, 37, fun x _ => x = .pointer (some ⟨w4.heap.size, 2, none⟩)⟩, ⟨25, 38, fun x _ => x = .agg #[.int .i64 (sg (b1 - b0)), .slice Q6 q6 h6]⟩, ⟨26, 39, fun x _ => x = .bool true⟩, ⟨27, 40, fun x _ => x = .bool true⟩, ⟨28, 4, fun x _ => x = .bool true⟩] (by kernel_rfl) (by kernel_rfl) (fun _ => trivial) ?_ ?_ ?_ ?_ ?_ ?_
  · exact trivial
  · refine ⟨?_, ?_, ?_, ?_, ?_, ?_, ?_, ?_, ?_, ?_, ?_, ?_, ?_, ?_, ?_, ?_, ?_, ?_, ?_, ?_, ?_, ?_, ?_, ?_, ?_, ?_, ?_, ?_, ?_, trivial⟩
    all_goals (intro x; (dsimp only; repeat (first | exact Stay.const _ | exact Stay.sl _ _ _ _ | exact Stay.nm _ _ _ _ | exact Stay.bx _ _ _ _ | refine Stay.ex fun _ => ?_ | refine Stay.and ?_ ?_)))
  · exact trivial
  · exact trivial
  · refine ⟨?_, ?_, ?_, ?_, ?_, ?_, ?_, ?_, ?_, ?_, ?_, ?_, ?_, ?_, ?_, ?_, ?_, ?_, ?_, ?_, ?_, ?_, ?_, ?_, ?_, ?_, ?_, ?_, ?_, trivial⟩
    · intro a w K hb ht hd hK
      have hbw := Lib.hid (below_tr RB5.out hb); clear hb
      clear ht hd
      have HK := Lib.hid hK; clear hK
      refine wpOp_step (by simp only [List.getElem?_toArray, List.getElem?_cons_succ, List.getElem?_cons_zero]; rfl) (fun K' hK' => ?_)
      have HK' := Lib.hid hK'; clear hK'
      go_simp
      refine (alive5 _).mono ?_
      rintro e w1 ⟨rfl, B⟩
      go_wp2_with fail
      exact HK'.out _ _ (HK.out _ _ B rfl)
    · intro a w K hb ht hd hK
      have hbw := Lib.hid (below_tr RB5.out hb); clear hb
      obtain ⟨x13, hx13, hp13⟩ := hd 0 _ rfl (by kernel_rfl)
      obtain rfl := hp13
      have es13 : a.tmps.getD 13 undef = _ := getD_of hx13; clear hx13
      clear ht hd
      have HK := Lib.hid hK; clear hK
      refine wpOp_step (by simp only [List.getElem?_toArray, List.getElem?_cons_succ, List.getElem?_cons_zero]; rfl) (fun K' hK' => ?_)
      have HK' := Lib.hid hK'; clear hK'
      go_simp
      exact HK'.out _ _ (HK.out _ _ below_rf rfl)
    · intro a w K hb ht hd hK
      have hbw := Lib.hid (below_tr RB5.out hb); clear hb
      have hx2 := (ht 2 rfl).trans rfl
      have es2 : a.tmps.getD 2 undef = _ := getD_of hx2; clear hx2
      obtain ⟨x14, hx14, hp14⟩ := hd 1 _ rfl (by kernel_rfl)
      obtain rfl := hp14
      have es14 : a.tmps.getD 14 undef = _ := getD_of hx14; have gs14 : a.tmps[14]? = some _ := hx14; clear hx14
      clear ht hd
      have HK := Lib.hid hK; clear hK
      refine wpOp_step (by simp only [List.getElem?_toArray, List.getElem?_cons_succ, List.getElem?_cons_zero]; rfl) (fun K' hK' => ?_)
      have HK' := Lib.hid hK'; clear hK'
      go_simp
      exact HK'.out _ _ (HK.out _ _ below_rf rfl)
    · intro a w K hb ht hd hK
      have hbw := Lib.hid (below_tr RB5.out hb); clear hb
      obtain ⟨x15, hx15, hp15⟩ := hd 2 _ rfl (by kernel_rfl)
      obtain rfl := hp15
      have es15 : a.tmps.getD 15 undef = _ := getD_of hx15; clear hx15
      obtain ⟨x14, hx14, hp14⟩ := hd 1 _ rfl (by kernel_rfl)
      obtain rfl := hp14
      have es14 : a.tmps.getD 14 undef = _ := getD_of hx14; have gs14 : a.tmps[14]? = some _ := hx14; clear hx14
      clear ht hd
      have c0 := (FP_5.out.below hbw.out (Nat.le_refl _)).cell 0 (v := .int .i64 a0) rfl
      have HK := Lib.hid hK; clear hK
      refine wpOp_step (by simp only [List.getElem?_toArray, List.getElem?_cons_succ, List.getElem?_cons_zero]; rfl) (fun K' hK' => ?_)
      have HK' := Lib.hid hK'; clear hK'
      go_simp
      exact HK'.out _ _ (HK.out _ _ below_rf rfl)
    · intro a w K hb ht hd hK
      have hbw := Lib.hid (below_tr RB5.out hb); clear hb
      have hx3 := (ht 3 rfl).trans rfl
      have es3 : a.tmps.getD 3 undef = _ := getD_of hx3; clear hx3
      obtain ⟨x14, hx14, hp14⟩ := hd 1 _ rfl (by kernel_rfl)
      obtain rfl := hp14
      have es14 : a.tmps.getD 14 undef = _ := getD_of hx14; have gs14 : a.tmps[14]? = some _ := hx14; clear hx14
      clear ht hd
      have HK := Lib.hid hK; clear hK
      refine wpOp_step (by simp only [List.getElem?_toArray, List.getElem?_cons_succ, List.getElem?_cons_zero]; rfl) (fun K' hK' => ?_)
      have HK' := Lib.hid hK'; clear hK'
      go_simp
      exact HK'.out _ _ (HK.out _ _ below_rf rfl)
    · intro a w K hb ht hd hK
      have hbw := Lib.hid (below_tr RB5.out hb); clear hb
      obtain ⟨x17, hx17, hp17⟩ := hd 4 _ rfl (by kernel_rfl)
      obtain rfl := hp17
      have es17 : a.tmps.getD 17 undef = _ := getD_of hx17; clear hx17
      obtain ⟨x14, hx14, hp14⟩ := hd 1 _ rfl (by kernel_rfl)
      obtain rfl := hp14
      have es14 : a.tmps.getD 14 undef = _ := getD_of hx14; have gs14 : a.tmps[14]? = some _ := hx14; clear hx14
      clear ht hd
      have c0 := (FQ_5.out.below hbw.out (Nat.le_refl _)).cell 1 (v := .int .i64 b1) rfl
      have HK := Lib.hid hK; clear hK
      refine wpOp_step (by simp only [List.getElem?_toArray, List.getElem?_cons_succ, List.getElem?_cons_zero]; rfl) (fun K' hK' => ?_)
      have HK' := Lib.hid hK'; clear hK'
      go_simp
      exact HK'.out _ _ (HK.out _ _ below_rf rfl)
    · intro a w K hb ht hd hK
      have hbw := Lib.hid (below_tr RB5.out hb); clear hb
      obtain ⟨x16, hx16, hp16⟩ := hd 3 _ rfl (by kernel_rfl)
      obtain rfl := hp16
      have es16 : a.tmps.getD 16 undef = _ := getD_of hx16; clear hx16
      obtain ⟨x18, hx18, hp18⟩ := hd 5 _ rfl (by kernel_rfl)
      obtain rfl := hp18
      have es18 : a.tmps.getD 18 undef = _ := getD_of hx18; clear hx18
      obtain ⟨x14, hx14, hp14⟩ := hd 1 _ rfl (by kernel_rfl)
      obtain rfl := hp14
      have es14 : a.tmps.getD 14 undef = _ := getD_of hx14; have gs14 : a.tmps[14]? = some _ := hx14; clear hx14
      clear ht hd
      have HK := Lib.hid hK; clear hK
      refine wpOp_step (by simp only [List.getElem?_toArray, List.getElem?_cons_succ, List.getElem?_cons_zero]; rfl) (fun K' hK' => ?_)
      have HK' := Lib.hid hK'; clear hK'
      go_simp
      refine (diff_Coordinate a0 b1 ia0 ib1 _).mono ?_
      rintro e w1 ⟨⟨A, c, rfl, S⟩, B⟩
      go_wp2_with fail
      exact HK'.out _ _ (HK.out _ _ B ⟨A, c, rfl, S⟩)
    · intro a w K hb ht hd hK
      have hbw := Lib.hid (below_tr RB5.out hb); clear hb
      have hx2 := (ht 2 rfl).trans rfl
      have es2 : a.tmps.getD 2 undef = _ := getD_of hx2; clear hx2
      obtain ⟨x14, hx14, hp14⟩ := hd 1 _ rfl (by kernel_rfl)
      obtain rfl := hp14
      have es14 : a.tmps.getD 14 undef = _ := getD_of hx14; have gs14 : a.tmps[14]? = some _ := hx14; clear hx14
      clear ht hd
      have HK := Lib.hid hK; clear hK
      refine wpOp_step (by simp only [List.getElem?_toArray, List.getElem?_cons_succ, List.getElem?_cons_zero]; rfl) (fun K' hK' => ?_)
      have HK' := Lib.hid hK'; clear hK'
      go_simp
      exact HK'.out _ _ (HK.out _ _ below_rf rfl)
    · intro a w K hb ht hd hK
      have hbw := Lib.hid (below_tr RB5.out hb); clear hb
      obtain ⟨x20, hx20, hp20⟩ := hd 7 _ rfl (by kernel_rfl)
      obtain rfl := hp20
      have es20 : a.tmps.getD 20 undef = _ := getD_of hx20; clear hx20
      obtain ⟨x14, hx14, hp14⟩ := hd 1 _ rfl (by kernel_rfl)
      obtain rfl := hp14
      have es14 : a.tmps.getD 14 undef = _ := getD_of hx14; have gs14 : a.tmps[14]? = some _ := hx14; clear hx14
      clear ht hd
      have c0 := (FP_5.out.below hbw.out (Nat.le_refl _)).cell 0 (v := .int .i64 a0) rfl
      have HK := Lib.hid hK; clear hK
      refine wpOp_step (by simp only [List.getElem?_toArray, List.getElem?_cons_succ, List.getElem?_cons_zero]; rfl) (fun K' hK' => ?_)
      have HK' := Lib.hid hK'; clear hK'
      go_simp
      exact HK'.out _ _ (HK.out _ _ below_rf rfl)
    · intro a w K hb ht hd hK
      have hbw := Lib.hid (below_tr RB5.out hb); clear hb
      have hx3 := (ht 3 rfl).trans rfl
      have es3 : a.tmps.getD 3 undef = _ := getD_of hx3; clear hx3
      obtain ⟨x14, hx14, hp14⟩ := hd 1 _ rfl (by kernel_rfl)
      obtain rfl := hp14
      have es14 : a.tmps.getD 14 undef = _ := getD_of hx14; have gs14 : a.tmps[14]? = some _ := hx14; clear hx14
      clear ht hd
      have HK := Lib.hid hK; clear hK
      refine wpOp_step (by simp only [List.getElem?_toArray, List.getElem?_cons_succ, List.getElem?_cons_zero]; rfl) (fun K' hK' => ?_)
      have HK' := Lib.hid hK'; clear hK'
      go_simp
      exact HK'.out _ _ (HK.out _ _ below_rf rfl)
    · intro a w K hb ht hd hK
      have hbw := Lib.hid (below_tr RB5.out hb); clear hb
      obtain ⟨x22, hx22, hp22⟩ := hd 9 _ rfl (by kernel_rfl)
      obtain rfl := hp22
      have es22 : a.tmps.getD 22 undef = _ := getD_of hx22; clear hx22
      obtain ⟨x14, hx14, hp14⟩ := hd 1 _ rfl (by kernel_rfl)
      obtain rfl := hp14
      have es14 : a.tmps.getD 14 undef = _ := getD_of hx14; have gs14 : a.tmps[14]? = some _ := hx14; clear hx14
      clear ht hd
      have c0 := (FQ_5.out.below hbw.out (Nat.le_refl _)).cell 1 (v := .int .i64 b1) rfl
      have HK := Lib.hid hK; clear hK
      refine wpOp_step (by simp only [List.getElem?_toArray, List.getElem?_cons_succ, List.getElem?_cons_zero]; rfl) (fun K' hK' => ?_)
      have HK' := Lib.hid hK'; clear hK'
      go_simp
      exact HK'.out _ _ (HK.out _ _ below_rf rfl)
    · intro a w K hb ht hd hK
      have hbw := Lib.hid (below_tr RB5.out hb); clear hb
      obtain ⟨x21, hx21, hp21⟩ := hd 8 _ rfl (by kernel_rfl)
      obtain rfl := hp21
      have es21 : a.tmps.getD 21 undef = _ := getD_of hx21; clear hx21
      obtain ⟨x23, hx23, hp23⟩ := hd 10 _ rfl (by kernel_rfl)
      obtain rfl := hp23
      have es23 : a.tmps.getD 23 undef = _ := getD_of hx23; clear hx23
      obtain ⟨x14, hx14, hp14⟩ := hd 1 _ rfl (by kernel_rfl)
      obtain rfl := hp14
      have es14 : a.tmps.getD 14 undef = _ := getD_of hx14; have gs14 : a.tmps[14]? = some _ := hx14; clear hx14
      clear ht hd
      have HK := Lib.hid hK; clear hK
      refine wpOp_step (by simp only [List.getElem?_toArray, List.getElem?_cons_succ, List.getElem?_cons_zero]; rfl) (fun K' hK' => ?_)
      have HK' := Lib.hid hK'; clear hK'
      go_simp
      refine (ref5_Coordinate a0 b1 ia0 ib1 _).mono ?_
      rintro e w1 ⟨⟨A, n, c, rfl, b, S⟩, B⟩
      go_wp2_with fail
      exact HK'.out _ _ (HK.out _ _ B ⟨A, n, c, rfl, S, b⟩)
    · intro a w K hb ht hd hK
      have hbw := Lib.hid (below_tr RB5.out hb); clear hb
      obtain ⟨x19, hx19, hp19⟩ := hd 6 _ rfl (by kernel_rfl)
      obtain ⟨A6, c6, rfl, S6⟩ := hp19
      have es19 : a.tmps.getD 19 undef = _ := getD_of hx19; clear hx19
      obtain ⟨x24, hx24, hp24⟩ := hd 11 _ rfl (by kernel_rfl)
      obtain ⟨A11, n11, c11, rfl, S11, b11⟩ := hp24
      have es24 : a.tmps.getD 24 undef = _ := getD_of hx24; clear hx24
      obtain ⟨x14, hx14, hp14⟩ := hd 1 _ rfl (by kernel_rfl)
      obtain rfl := hp14
      have es14 : a.tmps.getD 14 undef = _ := getD_of hx14; have gs14 : a.tmps[14]? = some _ := hx14; clear hx14
      clear ht hd
      have HK := Lib.hid hK; clear hK
      refine wpOp_step (by simp only [List.getElem?_toArray, List.getElem?_cons_succ, List.getElem?_cons_zero]; rfl) (fun K' hK' => ?_)
      have HK' := Lib.hid hK'; clear hK'
      go_simp
      refine (law5_limbs A6 A11 2 c6 n11 c11 (a0 - b1) (a0 - b1) 2 rfl _ S6 S11 (fun _ _ => rfl) (by omega) (by omega)).mono ?_
      rintro e w1 ⟨rfl, B⟩
      go_wp2_with fail
      exact HK'.out _ _ (HK.out _ _ B rfl)
    · intro a w K hb ht hd hK
      have hbw := Lib.hid (below_tr RB5.out hb); clear hb
      obtain ⟨x14, hx14, hp14⟩ := hd 1 _ rfl (by kernel_rfl)
      obtain rfl := hp14
      have es14 : a.tmps.getD 14 undef = _ := getD_of hx14; clear hx14
      obtain ⟨x25, hx25, hp25⟩ := hd 12 _ rfl (by kernel_rfl)
      obtain rfl := hp25
      have es25 : a.tmps.getD 25 undef = _ := getD_of hx25; clear hx25
      clear ht hd
      have HK := Lib.hid hK; clear hK
      refine wpOp_step (by simp only [List.getElem?_toArray, List.getElem?_cons_succ, List.getElem?_cons_zero]; rfl) (fun K' hK' => ?_)
      have HK' := Lib.hid hK'; clear hK'
      go_simp
      exact HK'.out _ _ (HK.out _ _ below_rf rfl)
    · intro a w K hb ht hd hK
      have hbw := Lib.hid (below_tr RB5.out hb); clear hb
      obtain ⟨x26, hx26, hp26⟩ := hd 13 _ rfl (by kernel_rfl)
      obtain rfl := hp26
      have es26 : a.tmps.getD 26 undef = _ := getD_of hx26; clear hx26
      clear ht hd
      have HK := Lib.hid hK; clear hK
      refine wpOp_step (by simp only [List.getElem?_toArray, List.getElem?_cons_succ, List.getElem?_cons_zero]; rfl) (fun K' hK' => ?_)
      have HK' := Lib.hid hK'; clear hK'
      go_simp
      exact HK'.out _ _ (HK.out _ _ below_rf rfl)
    · intro a w K hb ht hd hK
      have hbw := Lib.hid (below_tr RB5.out hb); clear hb
      have hx5 := (ht 5 rfl).trans rfl
      have es5 : a.tmps.getD 5 undef = _ := getD_of hx5; clear hx5
      obtain ⟨x27, hx27, hp27⟩ := hd 14 _ rfl (by kernel_rfl)
      obtain rfl := hp27
      have es27 : a.tmps.getD 27 undef = _ := getD_of hx27; have gs27 : a.tmps[27]? = some _ := hx27; clear hx27
      clear ht hd
      have HK := Lib.hid hK; clear hK
      refine wpOp_step (by simp only [List.getElem?_toArray, List.getElem?_cons_succ, List.getElem?_cons_zero]; rfl) (fun K' hK' => ?_)
      have HK' := Lib.hid hK'; clear hK'
      go_simp
      exact HK'.out _ _ (HK.out _ _ below_rf rfl)
    · intro a w K hb ht hd hK
      have hbw := Lib.hid (below_tr RB5.out hb); clear hb
      obtain ⟨x28, hx28, hp28⟩ := hd 15 _ rfl (by kernel_rfl)
      obtain rfl := hp28
      have es28 : a.tmps.getD 28 undef = _ := getD_of hx28; clear hx28
      obtain ⟨x27, hx27, hp27⟩ := hd 14 _ rfl (by kernel_rfl)
      obtain rfl := hp27
      have es27 : a.tmps.getD 27 undef = _ := getD_of hx27; have gs27 : a.tmps[27]? = some _ := hx27; clear hx27
      clear ht hd
      have c0 := (FB5_5.out.below hbw.out (Nat.le_refl _)).cell 0 (v := .slice U5 2 u5) rfl
      have HK := Lib.hid hK; clear hK
      refine wpOp_step (by simp only [List.getElem?_toArray, List.getElem?_cons_succ, List.getElem?_cons_zero]; rfl) (fun K' hK' => ?_)
      have HK' := Lib.hid hK'; clear hK'
      go_simp
      exact HK'.out _ _ (HK.out _ _ below_rf rfl)
    · intro a w K hb ht hd hK
      have hbw := Lib.hid (below_tr RB5.out hb); clear hb
      have hx6 := (ht 6 rfl).trans rfl
      have es6 : a.tmps.getD 6 undef = _ := getD_of hx6; clear hx6
      obtain ⟨x27, hx27, hp27⟩ := hd 14 _ rfl (by kernel_rfl)
      obtain rfl := hp27
      have es27 : a.tmps.getD 27 undef = _ := getD_of hx27; have gs27 : a.tmps[27]? = some _ := hx27; clear hx27
      clear ht hd
      have HK := Lib.hid hK; clear hK
      refine wpOp_step (by simp only [List.getElem?_toArray, List.getElem?_cons_succ, List.getElem?_cons_zero]; rfl) (fun K' hK' => ?_)
      have HK' := Lib.hid hK'; clear hK'
      go_simp
      exact HK'.out _ _ (HK.out _ _ below_rf rfl)
    · intro a w K hb ht hd hK
      have hbw := Lib.hid (below_tr RB5.out hb); clear hb
      obtain ⟨x30, hx30, hp30⟩ := hd 17 _ rfl (by kernel_rfl)
      obtain rfl := hp30
      have es30 : a.tmps.getD 30 undef = _ := getD_of hx30; clear hx30
      obtain ⟨x27, hx27, hp27⟩ := hd 14 _ rfl (by kernel_rfl)
      obtain rfl := hp27
      have es27 : a.tmps.getD 27 undef = _ := getD_of hx27; have gs27 : a.tmps[27]? = some _ := hx27; clear hx27
      clear ht hd
      have c0 := (FB6_5.out.below hbw.out (Nat.le_refl _)).cell 0 (v := .int .i64 (sg (a1 - a0))) rfl
      have c1 := (FB6_5.out.below hbw.out (Nat.le_refl _)).cell 1 (v := .slice P6 p6 g6) rfl
      have HK := Lib.hid hK; clear hK
      refine wpOp_step (by simp only [List.getElem?_toArray, List.getElem?_cons_succ, List.getElem?_cons_zero]; rfl) (fun K' hK' => ?_)
      have HK' := Lib.hid hK'; clear hK'
      go_simp
      exact HK'.out _ _ (HK.out _ _ below_rf rfl)
    · intro a w K hb ht hd hK
      have hbw := Lib.hid (below_tr RB5.out hb); clear hb
      obtain ⟨x29, hx29, hp29⟩ := hd 16 _ rfl (by kernel_rfl)
      obtain rfl := hp29
      have es29 : a.tmps.getD 29 undef = _ := getD_of hx29; clear hx29
      obtain ⟨x31, hx31, hp31⟩ := hd 18 _ rfl (by kernel_rfl)
      obtain rfl := hp31
      have es31 : a.tmps.getD 31 undef = _ := getD_of hx31; clear hx31
      obtain ⟨x27, hx27, hp27⟩ := hd 14 _ rfl (by kernel_rfl)
      obtain rfl := hp27
      have es27 : a.tmps.getD 27 undef = _ := getD_of hx27; have gs27 : a.tmps[27]? = some _ := hx27; clear hx27
      clear ht hd
      have HK := Lib.hid hK; clear hK
      refine wpOp_step (by simp only [List.getElem?_toArray, List.getElem?_cons_succ, List.getElem?_cons_zero]; rfl) (fun K' hK' => ?_)
      have HK' := Lib.hid hK'; clear hK'
      go_simp
      refine (law5_limbs _ _ 2 _ _ _ (a1 - a0) (a1 - a0) 2 rfl _ (FS5_5.out.below hbw.out (Nat.le_refl _)) (FM6_5.out.below hbw.out (Nat.le_refl _)) (fun _ _ => rfl) (by omega) (by omega)).mono ?_
      rintro e w1 ⟨rfl, B⟩
      go_wp2_with fail
      exact HK'.out _ _ (HK.out _ _ B rfl)
    · intro a w K hb ht hd hK
      have hbw := Lib.hid (below_tr RB5.out hb); clear hb
      obtain ⟨x27, hx27, hp27⟩ := hd 14 _ rfl (by kernel_rfl)
      obtain rfl := hp27
      have es27 : a.tmps.getD 27 undef = _ := getD_of hx27; clear hx27
      obtain ⟨x32, hx32, hp32⟩ := hd 19 _ rfl (by kernel_rfl)
      obtain rfl := hp32
      have es32 : a.tmps.getD 32 undef = _ := getD_of hx32; clear hx32
      clear ht hd
      have HK := Lib.hid hK; clear hK
      refine wpOp_step (by simp only [List.getElem?_toArray, List.getElem?_cons_succ, List.getElem?_cons_zero]; rfl) (fun K' hK' => ?_)
      have HK' := Lib.hid hK'; clear hK'
      go_simp
      exact HK'.out _ _ (HK.out _ _ below_rf rfl)
    · intro a w K hb ht hd hK
      have hbw := Lib.hid (below_tr RB5.out hb); clear hb
      obtain ⟨x33, hx33, hp33⟩ := hd 20 _ rfl (by kernel_rfl)
      obtain rfl := hp33
      have es33 : a.tmps.getD 33 undef = _ := getD_of hx33; clear hx33
      clear ht hd
      have HK := Lib.hid hK; clear hK
      refine wpOp_step (by simp only [List.getElem?_toArray, List.getElem?_cons_succ, List.getElem?_cons_zero]; rfl) (fun K' hK' => ?_)
      have HK' := Lib.hid hK'; clear hK'
      go_simp
      exact HK'.out _ _ (HK.out _ _ below_rf rfl)
    · intro a w K hb ht hd hK
      have hbw := Lib.hid (below_tr RB5.out hb); clear hb
      have hx5 := (ht 5 rfl).trans rfl
      have es5 : a.tmps.getD 5 undef = _ := getD_of hx5; clear hx5
      obtain ⟨x34, hx34, hp34⟩ := hd 21 _ rfl (by kernel_rfl)
      obtain rfl := hp34
      have es34 : a.tmps.getD 34 undef = _ := getD_of hx34; have gs34 : a.tmps[34]? = some _ := hx34; clear hx34
      clear ht hd
      have HK := Lib.hid hK; clear hK
      refine wpOp_step (by simp only [List.getElem?_toArray, List.getElem?_cons_succ, List.getElem?_cons_zero]; rfl) (fun K' hK' => ?_)
      have HK' := Lib.hid hK'; clear hK'
      go_simp
      exact HK'.out _ _ (HK.out _ _ below_rf rfl)
    · intro a w K hb ht hd hK
      have hbw := Lib.hid (below_tr RB5.out hb); clear hb
      obtain ⟨x35, hx35, hp35⟩ := hd 22 _ rfl (by kernel_rfl)
      obtain rfl := hp35
      have es35 : a.tmps.getD 35 undef = _ := getD_of hx35; clear hx35
      obtain ⟨x34, hx34, hp34⟩ := hd 21 _ rfl (by kernel_rfl)
      obtain rfl := hp34
      have es34 : a.tmps.getD 34 undef = _ := getD_of hx34; have gs34 : a.tmps[34]? = some _ := hx34; clear hx34
      clear ht hd
      have c0 := (FB5_5.out.below hbw.out (Nat.le_refl _)).cell 1 (v := .slice V5 2 v5) rfl
      have HK := Lib.hid hK; clear hK
      refine wpOp_step (by simp only [List.getElem?_toArray, List.getElem?_cons_succ, List.getElem?_cons_zero]; rfl) (fun K' hK' => ?_)
      have HK' := Lib.hid hK'; clear hK'
      go_simp
      exact HK'.out _ _ (HK.out _ _ below_rf rfl)
    · intro a w K hb ht hd hK
      have hbw := Lib.hid (below_tr RB5.out hb); clear hb
      have hx6 := (ht 6 rfl).trans rfl
      have es6 : a.tmps.getD 6 undef = _ := getD_of hx6; clear hx6
      obtain ⟨x34, hx34, hp34⟩ := hd 21 _ rfl (by kernel_rfl)
      obtain rfl := hp34
      have es34 : a.tmps.getD 34 undef = _ := getD_of hx34; have gs34 : a.tmps[34]? = some _ := hx34; clear hx34
      clear ht hd
      have HK := Lib.hid hK; clear hK
      refine wpOp_step (by simp only [List.getElem?_toArray, List.getElem?_cons_succ, List.getElem?_cons_zero]; rfl) (fun K' hK' => ?_)
      have HK' := Lib.hid hK'; clear hK'
      go_simp
      exact HK'.out _ _ (HK.out _ _ below_rf rfl)
    · intro a w K hb ht hd hK
      have hbw := Lib.hid (below_tr RB5.out hb); clear hb
      obtain ⟨x37, hx37, hp37⟩ := hd 24 _ rfl (by kernel_rfl)
      obtain rfl := hp37
      have es37 : a.tmps.getD 37 undef = _ := getD_of hx37; clear hx37
      obtain ⟨x34, hx34, hp34⟩ := hd 21 _ rfl (by kernel_rfl)
      obtain rfl := hp34
      have es34 : a.tmps.getD 34 undef = _ := getD_of hx34; have gs34 : a.tmps[34]? = some _ := hx34; clear hx34
      clear ht hd
      have c0 := (FB6_5.out.below hbw.out (Nat.le_refl _)).cell 2 (v := .int .i64 (sg (b1 - b0))) rfl
      have c1 := (FB6_5.out.below hbw.out (Nat.le_refl _)).cell 3 (v := .slice Q6 q6 h6) rfl
      have HK := Lib.hid hK; clear hK
      refine wpOp_step (by simp only [List.getElem?_toArray, List.getElem?_cons_succ, List.getElem?_cons_zero]; rfl) (fun K' hK' => ?_)
      have HK' := Lib.hid hK'; clear hK'
      go_simp
      exact HK'.out _ _ (HK.out _ _ below_rf rfl)
    · intro a w K hb ht hd hK
      have hbw := Lib.hid (below_tr RB5.out hb); clear hb
      obtain ⟨x36, hx36, hp36⟩ := hd 23 _ rfl (by kernel_rfl)
      obtain rfl := hp36
      have es36 : a.tmps.getD 36 undef = _ := getD_of hx36; clear hx36
      obtain ⟨x38, hx38, hp38⟩ := hd 25 _ rfl (by kernel_rfl)
      obtain rfl := hp38
      have es38 : a.tmps.getD 38 undef = _ := getD_of hx38; clear hx38
      obtain ⟨x34, hx34, hp34⟩ := hd 21 _ rfl (by kernel_rfl)
      obtain rfl := hp34
      have es34 : a.tmps.getD 34 undef = _ := getD_of hx34; have gs34 : a.tmps[34]? = some _ := hx34; clear hx34
      clear ht hd
      have HK := Lib.hid hK; clear hK
      refine wpOp_step (by simp only [List.getElem?_toArray, List.getElem?_cons_succ, List.getElem?_cons_zero]; rfl) (fun K' hK' => ?_)
      have HK' := Lib.hid hK'; clear hK'
      go_simp
      refine (law5_limbs _ _ 2 _ _ _ (b1 - b0) (b1 - b0) 2 rfl _ (FT5_5.out.below hbw.out (Nat.le_refl _)) (FN6_5.out.below hbw.out (Nat.le_refl _)) (fun _ _ => rfl) (by omega) (by omega)).mono ?_
      rintro e w1 ⟨rfl, B⟩
      go_wp2_with fail
      exact HK'.out _ _ (HK.out _ _ B rfl)
    · intro a w K hb ht hd hK
      have hbw := Lib.hid (below_tr RB5.out hb); clear hb
      obtain ⟨x34, hx34, hp34⟩ := hd 21 _ rfl (by kernel_rfl)
      obtain rfl := hp34
      have es34 : a.tmps.getD 34 undef = _ := getD_of hx34; clear hx34
      obtain ⟨x39, hx39, hp39⟩ := hd 26 _ rfl (by kernel_rfl)
      obtain rfl := hp39
      have es39 : a.tmps.getD 39 undef = _ := getD_of hx39; clear hx39
      clear ht hd
      have HK := Lib.hid hK; clear hK
      refine wpOp_step (by simp only [List.getElem?_toArray, List.getElem?_cons_succ, List.getElem?_cons_zero]; rfl) (fun K' hK' => ?_)
      have HK' := Lib.hid hK'; clear hK'
      go_simp
      exact HK'.out _ _ (HK.out _ _ below_rf rfl)
    · intro a w K hb ht hd hK
      have hbw := Lib.hid (below_tr RB5.out hb); clear hb
      obtain ⟨x40, hx40, hp40⟩ := hd 27 _ rfl (by kernel_rfl)
      obtain rfl := hp40
      have es40 : a.tmps.getD 40 undef = _ := getD_of hx40; clear hx40
      clear ht hd
      have HK := Lib.hid hK; clear hK
      refine wpOp_step (by simp only [List.getElem?_toArray, List.getElem?_cons_succ, List.getElem?_cons_zero]; rfl) (fun K' hK' => ?_)
      have HK' := Lib.hid hK'; clear hK'
      go_simp
      exact HK'.out _ _ (HK.out _ _ below_rf rfl)
  · intro w6 X B hb hv hx hd
    simp only [List.foldl_cons, List.foldl_nil, Act.put, List.setIfInBounds_toArray, List.set_cons_zero, List.set_cons_succ, ptrTo]
    obtain ⟨hv0, hv1, hv2, hv3, hv4, hv5, hv6, hv7, hv8, hv9, hv10, hv11, hv12, hv13, hv14, hv15, hv16, hv17, hv18, hv19, hv20, hv21, hv22, hv23, hv24, hv25, hv26, hv27, hv28, -⟩ := hv
    clear hd
    have hV0 : (fun x _ => x = .bool true) (X 13) w6 := hv0; clear hv0; have hv0 := hV0; clear hV0; generalize X 13 = X13 at *
    have hV1 : (fun x _ => x = .bool true) (X 14) w6 := hv1; clear hv1; have hv1 := hV1; clear hV1; generalize X 14 = X14 at *
    have hV2 : (fun x _ => x = .pointer (some ⟨w.heap.size, 0, none⟩)) (X 15) w6 := hv2; clear hv2; have hv2 := hV2; clear hV2; generalize X 15 = X15 at *
    have hV3 : (fun x _ => x = .int .i64 a0) (X 16) w6 := hv3; clear hv3; have hv3 := hV3; clear hV3; generalize X 16 = X16 at *
    have hV4 : (fun x _ => x = .pointer (some ⟨w.heap.size + 1, 1, none⟩)) (X 17) w6 := hv4; clear hv4; have hv4 := hV4; clear hV4; generalize X 17 = X17 at *
    have hV5 : (fun x _ => x = .int .i64 b1) (X 18) w6 := hv5; clear hv5; have hv5 := hV5; clear hV5; generalize X 18 = X18 at *
    have hV6 : (fun x w => ∃ (A : Option Addr) (c : Nat), x = .slice A 2 c ∧ Sl w .u64 A 2 c (lmb (a0 - b1))) (X 19) w6 := hv6; clear hv6; have hv6 := hV6; clear hV6; generalize X 19 = X19 at *
    have hV7 : (fun x _ => x = .pointer (some ⟨w.heap.size, 0, none⟩)) (X 20) w6 := hv7; clear hv7; have hv7 := hV7; clear hV7; generalize X 20 = X20 at *
    have hV8 : (fun x _ => x = .int .i64 a0) (X 21) w6 := hv8; clear hv8; have hv8 := hV8; clear hV8; generalize X 21 = X21 at *
    have hV9 : (fun x _ => x = .pointer (some ⟨w.heap.size + 1, 1, none⟩)) (X 22) w6 := hv9; clear hv9; have hv9 := hV9; clear hV9; generalize X 22 = X22 at *
    have hV10 : (fun x _ => x = .int .i64 b1) (X 23) w6 := hv10; clear hv10; have hv10 := hV10; clear hV10; generalize X 23 = X23 at *
    have hV11 : (fun x w => ∃ (A : Option Addr) (n c : Nat), x = .agg #[.int .i64 (sg (a0 - b1)), .slice A n c] ∧ Nm w A n c (a0 - b1) ∧ n ≤ 5) (X 24) w6 := hv11; clear hv11; have hv11 := hV11; clear hV11; generalize X 24 = X24 at *
    have hV12 : (fun x _ => x = .bool true) (X 25) w6 := hv12; clear hv12; have hv12 := hV12; clear hV12; generalize X 25 = X25 at *
    have hV13 : (fun x _ => x = .bool true) (X 26) w6 := hv13; clear hv13; have hv13 := hV13; clear hV13; generalize X 26 = X26 at *
    have hV14 : (fun x _ => x = .bool true) (X 27) w6 := hv14; clear hv14; have hv14 := hV14; clear hV14; generalize X 27 = X27 at *
    have hV15 : (fun x _ => x = .pointer (some ⟨w2.heap.size, 0, none⟩)) (X 28) w6 := hv15; clear hv15; have hv15 := hV15; clear hV15; generalize X 28 = X28 at *
    have hV16 : (fun x _ => x = .slice U5 2 u5) (X 29) w6 := hv16; clear hv16; have hv16 := hV16; clear hV16; generalize X 29 = X29 at *
    have hV17 : (fun x _ => x = .pointer (some ⟨w4.heap.size, 0, none⟩)) (X 30) w6 := hv17; clear hv17; have hv17 := hV17; clear hV17; generalize X 30 = X30 at *
    have hV18 : (fun x _ => x = .agg #[.int .i64 (sg (a1 - a0)), .slice P6 p6 g6]) (X 31) w6 := hv18; clear hv18; have hv18 := hV18; clear hV18; generalize X 31 = X31 at *
    have hV19 : (fun x _ => x = .bool true) (X 32) w6 := hv19; clear hv19; have hv19 := hV19; clear hV19; generalize X 32 = X32 at *
    have hV20 : (fun x _ => x = .bool true) (X 33) w6 := hv20; clear hv20; have hv20 := hV20; clear hV20; generalize X 33 = X33 at *
    have hV21 : (fun x _ => x = .bool true) (X 34) w6 := hv21; clear hv21; have hv21 := hV21; clear hV21; generalize X 34 = X34 at *
    have hV22 : (fun x _ => x = .pointer (some ⟨w2.heap.size, 1, none⟩)) (X 35) w6 := hv22; clear hv22; have hv22 := hV22; clear hV22; generalize X 35 = X35 at *
    have hV23 : (fun x _ => x = .slice V5 2 v5) (X 36) w6 := hv23; clear hv23; have hv23 := hV23; clear hV23; generalize X 36 = X36 at *
    have hV24 : (fun x _ => x = .pointer (some ⟨w4.heap.size, 2, none⟩)) (X 37) w6 := hv24; clear hv24; have hv24 := hV24; clear hV24; generalize X 37 = X37 at *
    have hV25 : (fun x _ => x = .agg #[.int .i64 (sg (b1 - b0)), .slice Q6 q6 h6]) (X 38) w6 := hv25; clear hv25; have hv25 := hV25; clear hV25; generalize X 38 = X38 at *
    have hV26 : (fun x _ => x = .bool true) (X 39) w6 := hv26; clear hv26; have hv26 := hV26; clear hV26; generalize X 39 = X39 at *
    have hV27 : (fun x _ => x = .bool true) (X 40) w6 := hv27; clear hv27; have hv27 := hV27; clear hV27; generalize X 40 = X40 at *
    have hV28 : (fun x _ => x = .bool true) (X 4) w6 := hv28; clear hv28; have hv28 := hV28; clear hV28; generalize X 4 = X4 at *
    obtain rfl := hv0
    obtain rfl := hv1
    obtain rfl := hv2
    obtain rfl := hv3
    obtain rfl := hv4
    obtain rfl := hv5
    clear hv6
    obtain rfl := hv7
    obtain rfl := hv8
    obtain rfl := hv9
    obtain rfl := hv10
    clear hv11
    obtain rfl := hv12
    obtain rfl := hv13
    obtain rfl := hv14
    obtain rfl := hv15
    obtain rfl := hv16
    obtain rfl := hv17
    obtain rfl := hv18
    obtain rfl := hv19
    obtain rfl := hv20
    obtain rfl := hv21
    obtain rfl := hv22
    obtain rfl := hv23
    obtain rfl := hv24
    obtain rfl := hv25
    obtain rfl := hv26
    obtain rfl := hv27
    obtain rfl := hv28
    have RC := Lib.hid (below_tr RB5.out hb); clear hb
    have FP_6 := Lib.hid (FP_5.out.below RC.out (Nat.le_refl _))
    have FQ_6 := Lib.hid (FQ_5.out.below RC.out (Nat.le_refl _))
    have FS5_6 := Lib.hid (FS5_5.out.below RC.out (Nat.le_refl _))
    have FT5_6 := Lib.hid (FT5_5.out.below RC.out (Nat.le_refl _))
    have FB5_6 := Lib.hid (FB5_5.out.below RC.out (Nat.le_refl _))
    have FM6_6 := Lib.hid (FM6_5.out.below RC.out (Nat.le_refl _))
    have FN6_6 := Lib.hid (FN6_5.out.below RC.out (Nat.le_refl _))
    have FB6_6 := Lib.hid (FB6_5.out.below RC.out (Nat.le_refl _))
    have HB6 := Lib.hid (HB5.out.trans (RC.out.mono HB5.out.size))
    clear HB5 FP_5 FQ_5 FS5_5 FT5_5 FB5_5 FM6_5 FN6_5 FB6_5 RC RB5
    go_wp2_with fail
    go_ret
    exact ⟨rfl, HB6.out⟩

set_option maxRecDepth 100000 in
theorem lifted (os : Os) (started : os.Started) (H : Type) (enc : TypeId × Value → H) :
    ReturnsInHanded {} Try.checked os 3 .any (Rows.diffCoordinatesSpec.pre6 enc Try.prog Try.f3 Rows.diffCoordinatesRow.domain false) (Rows.diffCoordinatesSpec.post enc Try.prog Try.f3 false true false false) := by
  refine returnsInHanded_of_change (C := Try.checked) own started (by kernel_rfl) Try.func3
    (ChangeSpec.witness6 (enc := enc) (C := Try.checked) false ⟨#[], #[.agg #[.int .i64 0, .int .i64 0], .agg #[.int .i64 0, .int .i64 0]], []⟩ 8 (by kernel_rfl) (by kernel_rfl) (by kernel_rfl) (by kernel_rfl)) ?_
  intro W base args ds gs before hval0 hW hcnd _
  have hval : ∀ (j : Nat) t v, Try.f3.params[j]? = some t → args[j]? = some v → Value.okWide Try.prog W .any base t v := hval0
  have hW' := hW
  obtain ⟨p, q, hA0, hV, rfl, hfz, hnd⟩ := hW
  have hA : DataW.TrodAll enc Try.prog W 0 (fun _ => true) true Try.f3.params.toList args.toList ds p := hA0
  rw [Try.params3] at hA hval
  obtain ⟨v0, vs0, d0, ds0, p0, q0, hargs, rfl, rfl, h0, r0⟩ := trodAll_cons hA
  obtain ⟨v1, vs1, d1, ds1, p1, q1, rfl, rfl, rfl, h1, r1⟩ := trodAll_cons r0
  obtain ⟨rfl, rfl, rfl⟩ := trodAll_nil r1
  obtain rfl : args = #[v0, v1] := by cases args; simp_all
  obtain ⟨rfl, rfl⟩ := trodVars_none hV
  have k0 := h0
  have lt0 : ∀ x ∈ p0, x.block < W.heap.size := by obtain ⟨m, hm⟩ := k0; exact DataW.trod_lt m _ _ _ hm
  have k1 := h1
  have lt1 : ∀ x ∈ p1, x.block < W.heap.size := by obtain ⟨m, hm⟩ := k1; exact DataW.trod_lt m _ _ _ hm
  obtain ⟨a0, b0, rfl, w0, x0⟩ := Op.open_pt Try.underlying23 rfl rfl rfl rfl Try.underlying2 (by kernel_rfl) (by kernel_rfl) h0
  obtain ⟨a1, b1, rfl, w1, x1⟩ := Op.open_pt Try.underlying23 rfl rfl rfl rfl Try.underlying2 (by kernel_rfl) (by kernel_rfl) h1
  clear hA0 hval0
  refine (walk a0 b0 w0 x0 a1 b1 w1 x1).mono fun e W' ⟨he, bel⟩ => ?_
  subst he
  exact ⟨_, rfl, _, _, _, [], _, [], hW', trodAll_mk1 (shut_bool Try.underlying4 _), (trodAll_cons_mk (Below.trod laidOut (by kernel_rfl) (of_decide_eq_true (by kernel_rfl)) k0 bel lt0) (trodAll_cons_mk (Below.trod laidOut (by kernel_rfl) (of_decide_eq_true (by kernel_rfl)) k1 bel lt1) trodAll_mk0)), rfl, bel.frame _, fun h => by cases h⟩

theorem over : Rows.diffCoordinatesRow.holds Try.pinned (OpenSpec.ofChange Rows.diffCoordinatesSpec) :=
  OpenClaim.holds_of_wide 3 Try.f3 rfl rfl rfl rfl rfl rfl rfl ⟨rfl, rfl, rfl, rfl, rfl⟩ rfl rfl rfl rfl rfl (by kernel_rfl) Try.func3 (by kernel_rfl)
    (of_decide_eq_true (by kernel_rfl)) (by unfold Func.isWrapper; first | (rw [if_pos (by decide +kernel)]; kernel_rfl) | (rw [if_neg (by decide +kernel)]; exact ⟨rfl, rfl⟩))
    (fun os started H enc _ => lifted os started H enc)

/-- THE STATEMENT -/
theorem proved : Rows.DiffCoordinatesSaid := over
#print axioms proved
end Go.Proofs.Ytfjanlfbnliokaa.diffCoordinates
