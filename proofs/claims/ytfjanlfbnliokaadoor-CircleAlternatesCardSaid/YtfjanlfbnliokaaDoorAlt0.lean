/- CircleAlternates: the walk where the first remainder is 0. -/
import Derived.Test.YtfjanlfbnliokaaDoorLaw7
import Derived.Test.YtfjanlfbnliokaaDoorRegM
import Derived.Test.YtfjanlfbnliokaaDoorOpenPt
import Derived.WalkKit
import Derived.ProofKit
import Derived.Below
namespace Go.Proofs.YtfjanlfbnliokaaDoor
set_option linter.unusedVariables false
set_option linter.unusedSimpArgs false
open Go.RowKit Wd

set_option maxHeartbeats 4000000 in
theorem alt7_00 {w : World} (a0_0 a0_1 a0_2 a0_3 a0_4 a0_5 a0_6 a0_7 : Int) (w0_0 : (Lit.int .i64 a0_0).wf = true) (w0_1 : (Lit.int .i64 a0_1).wf = true) (w0_2 : (Lit.int .i64 a0_2).wf = true) (w0_3 : (Lit.int .i64 a0_3).wf = true) (w0_4 : (Lit.int .i64 a0_4).wf = true) (w0_5 : (Lit.int .i64 a0_5).wf = true) (w0_6 : (Lit.int .i64 a0_6).wf = true) (w0_7 : (Lit.int .i64 a0_7).wf = true) (a1 : Int) (w1 : (Lit.int .u8 a1).wf = true) (a2 : Int) (w2 : (Lit.int .u8 a2).wf = true) (hT : TabM w) (e1 : a1.tmod 4 = 0) (e2 : a2.tmod 4 = 0) :
    Calls Tryd.prog 11 #[.agg #[.int .i64 a0_0, .int .i64 a0_1, .int .i64 a0_2, .int .i64 a0_3, .int .i64 a0_4, .int .i64 a0_5, .int .i64 a0_6, .int .i64 a0_7], .int .u8 a1, .int .u8 a2] w fun e w' => e = .returned (.bool true) ∧ Below w.heap.size w w' := by
  have HB0 := Lib.hid (Below.refl w.heap.size w)
  have i0_0 := isI_of_wf w0_0
  have i0_1 := isI_of_wf w0_1
  have i0_2 := isI_of_wf w0_2
  have i0_3 := isI_of_wf w0_3
  have i0_4 := isI_of_wf w0_4
  have i0_5 := isI_of_wf w0_5
  have i0_6 := isI_of_wf w0_6
  have i0_7 := isI_of_wf w0_7
  have FT := Lib.hid hT; clear hT
  have hfd : ∀ (s : Int) (V : Option Addr) (k c : Nat) (w : World), (Instr.field 26 (.agg #[.int .i64 s, .slice V k c]) 0).run Tryd.prog w = .ok (.int .i64 s) w := fun _ _ _ _ _ => by kernel_rfl
  have hv1 : IntKind.u8.wrap 0 = 0 := (by decide)
  clear w1 w2
  have q1 := (show P4 a0_0 a0_1 a0_2 a0_3 a0_4 a0_5 a0_6 a0_7 from ⟨i0_0, i0_1, i0_2, i0_3, i0_4, i0_5, i0_6, i0_7⟩)
  have q2 := (show P4 a0_0 a0_1 a0_2 a0_3 a0_4 a0_5 a0_6 a0_7 from ⟨i0_0, i0_1, i0_2, i0_3, i0_4, i0_5, i0_6, i0_7⟩)
  go_enter Tryd.func11, Tryd.ntmps11
  go_wp2_with fail
  have B : Below w.heap.size w (w.alloc (.cells #[.int .i64 a0_0, .int .i64 a0_1, .int .i64 a0_2, .int .i64 a0_3, .int .i64 a0_4, .int .i64 a0_5, .int .i64 a0_6, .int .i64 a0_7] 48)) := (HB0.out.alloc HB0.out.size _)
  have C : Below w.heap.size w (w.alloc (.cells #[.int .i64 a0_0, .int .i64 a0_1, .int .i64 a0_2, .int .i64 a0_3, .int .i64 a0_4, .int .i64 a0_5, .int .i64 a0_6, .int .i64 a0_7] 48)) := ((Below.refl w.heap.size w).alloc (Nat.le_refl _) _)
  have X0 : Bx (w.alloc (.cells #[.int .i64 a0_0, .int .i64 a0_1, .int .i64 a0_2, .int .i64 a0_3, .int .i64 a0_4, .int .i64 a0_5, .int .i64 a0_6, .int .i64 a0_7] 48)) (w.heap.size) #[.int .i64 a0_0, .int .i64 a0_1, .int .i64 a0_2, .int .i64 a0_3, .int .i64 a0_4, .int .i64 a0_5, .int .i64 a0_6, .int .i64 a0_7] 48 := by simpa using (Bx.new w #[.int .i64 a0_0, .int .i64 a0_1, .int .i64 a0_2, .int .i64 a0_3, .int .i64 a0_4, .int .i64 a0_5, .int .i64 a0_6, .int .i64 a0_7] 48)
  have FT_1 := Lib.hid (FT.out.below C (Nat.le_refl _))
  have HB1 := Lib.hid B
  have FA_1 := Lib.hid X0
  clear B C X0 HB0 FT
  have HSZ := Lib.hid (show (w.alloc (.cells #[.int .i64 a0_0, .int .i64 a0_1, .int .i64 a0_2, .int .i64 a0_3, .int .i64 a0_4, .int .i64 a0_5, .int .i64 a0_6, .int .i64 a0_7] 48)).heap.size = w.heap.size + 1 from by simp)
  generalize (w.alloc (.cells #[.int .i64 a0_0, .int .i64 a0_1, .int .i64 a0_2, .int .i64 a0_3, .int .i64 a0_4, .int .i64 a0_5, .int .i64 a0_6, .int .i64 a0_7] 48)) = w1 at *
  have C2 := Lib.hid (show Below w1.heap.size w1 (w1.alloc (.cells #[.int .i64 a0_0, .int .i64 a0_1, .int .i64 a0_2, .int .i64 a0_3, .int .i64 a0_4, .int .i64 a0_5, .int .i64 a0_6, .int .i64 a0_7] 48)) from below_al below_rf)
  have M2 := Lib.hid (show Bx (w1.alloc (.cells #[.int .i64 a0_0, .int .i64 a0_1, .int .i64 a0_2, .int .i64 a0_3, .int .i64 a0_4, .int .i64 a0_5, .int .i64 a0_6, .int .i64 a0_7] 48)) (w.heap.size + 1) #[.int .i64 a0_0, .int .i64 a0_1, .int .i64 a0_2, .int .i64 a0_3, .int .i64 a0_4, .int .i64 a0_5, .int .i64 a0_6, .int .i64 a0_7] 48 from bx_new HSZ.out.symm)
  generalize (w1.alloc (.cells #[.int .i64 a0_0, .int .i64 a0_1, .int .i64 a0_2, .int .i64 a0_3, .int .i64 a0_4, .int .i64 a0_5, .int .i64 a0_6, .int .i64 a0_7] 48)) = w2 at *
  go_upto_region 2 with (fail)
  have MD := Lib.hid (show Bx w2.drew (w.heap.size + 1) #[.int .i64 a0_0, .int .i64 a0_1, .int .i64 a0_2, .int .i64 a0_3, .int .i64 a0_4, .int .i64 a0_5, .int .i64 a0_6, .int .i64 a0_7] 48 from bx_dr M2.out)
  refine wp_region_held_drew (S := fun _ => True) (by kernel_rfl) trivial (fun _ => ?_)
  refine wpAnyH_genM w1.heap.size (w.heap.size + 1) 48 #[.int .i64 a0_0, .int .i64 a0_1, .int .i64 a0_2, .int .i64 a0_3, .int .i64 a0_4, .int .i64 a0_5, .int .i64 a0_6, .int .i64 a0_7] [⟨13, 0, [.int .i64 a0_0, .int .i64 a0_1]⟩, ⟨15, 0, [.int .i64 a0_0, .int .i64 a0_1]⟩] [⟨0, 11, .int .u8 a1⟩, ⟨1, 12, .int .u8 0⟩, ⟨2, 13, .int .u8 a2⟩, ⟨3, 14, .int .u8 0⟩, ⟨4, 15, .int .u8 a2⟩, ⟨5, 16, .int .u8 0⟩, ⟨6, 17, .pointer (some ⟨w.heap.size, 0, none⟩)⟩, ⟨7, 18, .agg #[.int .i64 a0_0, .int .i64 a0_1]⟩, ⟨8, 19, .int .u8 a1⟩, ⟨9, 20, .int .u8 0⟩, ⟨10, 21, .pointer (some ⟨w.heap.size, 0, none⟩)⟩, ⟨11, 22, .agg #[.int .i64 a0_0, .int .i64 a0_1]⟩, ⟨12, 23, .pointer (some ⟨w.heap.size + 1, 0, none⟩)⟩, ⟨14, 24, .pointer (some ⟨w.heap.size + 1, 0, none⟩)⟩] (by kernel_rfl) (fun _ => trivial) (Nat.le_of_eq HSZ.out) MD.out ?_ ?_ ?_
  · refine ⟨?_, ?_, ?_, ?_, ?_, ?_, ?_, ?_, ?_, ?_, ?_, ?_, ?_, ?_, trivial⟩
    · intro a wz K hb ht hd hM hK
      have hbw := Lib.hid (C2.out.trans ((Below.refl w1.heap.size w2).drew.trans hb)); clear hb
      have HK := Lib.hid hK; clear hK
      all_goals (
      have hx1 := (ht 1 rfl).trans rfl
      have es1 : a.tmps.getD 1 undef = _ := getD_of hx1; clear hx1
      clear ht hd
      clear hM
      refine wpOp_step (by simp only [List.getElem?_toArray, List.getElem?_cons_succ, List.getElem?_cons_zero]; rfl) (fun K' hK' => ?_)
      have HK' := Lib.hid hK'; clear hK'
      go_simp
      exact HK'.out _ _ HK.out)
    · intro a wz K hb ht hd hM hK
      have hbw := Lib.hid (C2.out.trans ((Below.refl w1.heap.size w2).drew.trans hb)); clear hb
      have HK := Lib.hid hK; clear hK
      all_goals (
      have hx11 : a.tmps[11]? = some (.int .u8 a1) := hd 0 _ rfl (by kernel_rfl)
      have es11 : a.tmps.getD 11 undef = _ := getD_of hx11; clear hx11
      clear ht hd
      clear hM
      refine wpOp_step (by simp only [List.getElem?_toArray, List.getElem?_cons_succ, List.getElem?_cons_zero]; rfl) (fun K' hK' => ?_)
      have HK' := Lib.hid hK'; clear hK'
      go_simp
      exact HK'.out _ _ HK.out)
    · intro a wz K hb ht hd hM hK
      have hbw := Lib.hid (C2.out.trans ((Below.refl w1.heap.size w2).drew.trans hb)); clear hb
      have HK := Lib.hid hK; clear hK
      all_goals (
      have hx2 := (ht 2 rfl).trans rfl
      have es2 : a.tmps.getD 2 undef = _ := getD_of hx2; clear hx2
      clear ht hd
      clear hM
      refine wpOp_step (by simp only [List.getElem?_toArray, List.getElem?_cons_succ, List.getElem?_cons_zero]; rfl) (fun K' hK' => ?_)
      have HK' := Lib.hid hK'; clear hK'
      go_simp
      exact HK'.out _ _ HK.out)
    · intro a wz K hb ht hd hM hK
      have hbw := Lib.hid (C2.out.trans ((Below.refl w1.heap.size w2).drew.trans hb)); clear hb
      have HK := Lib.hid hK; clear hK
      all_goals (
      have hx13 : a.tmps[13]? = some (.int .u8 a2) := hd 2 _ rfl (by kernel_rfl)
      have es13 : a.tmps.getD 13 undef = _ := getD_of hx13; clear hx13
      clear ht hd
      clear hM
      refine wpOp_step (by simp only [List.getElem?_toArray, List.getElem?_cons_succ, List.getElem?_cons_zero]; rfl) (fun K' hK' => ?_)
      have HK' := Lib.hid hK'; clear hK'
      go_simp
      exact HK'.out _ _ HK.out)
    · intro a wz K hb ht hd hM hK
      have hbw := Lib.hid (C2.out.trans ((Below.refl w1.heap.size w2).drew.trans hb)); clear hb
      have HK := Lib.hid hK; clear hK
      all_goals (
      have hx2 := (ht 2 rfl).trans rfl
      have es2 : a.tmps.getD 2 undef = _ := getD_of hx2; clear hx2
      clear ht hd
      clear hM
      refine wpOp_step (by simp only [List.getElem?_toArray, List.getElem?_cons_succ, List.getElem?_cons_zero]; rfl) (fun K' hK' => ?_)
      have HK' := Lib.hid hK'; clear hK'
      go_simp
      exact HK'.out _ _ HK.out)
    · intro a wz K hb ht hd hM hK
      have hbw := Lib.hid (C2.out.trans ((Below.refl w1.heap.size w2).drew.trans hb)); clear hb
      have HK := Lib.hid hK; clear hK
      all_goals (
      have hx15 : a.tmps[15]? = some (.int .u8 a2) := hd 4 _ rfl (by kernel_rfl)
      have es15 : a.tmps.getD 15 undef = _ := getD_of hx15; clear hx15
      clear ht hd
      clear hM
      refine wpOp_step (by simp only [List.getElem?_toArray, List.getElem?_cons_succ, List.getElem?_cons_zero]; rfl) (fun K' hK' => ?_)
      have HK' := Lib.hid hK'; clear hK'
      go_simp
      exact HK'.out _ _ HK.out)
    · intro a wz K hb ht hd hM hK
      have hbw := Lib.hid (C2.out.trans ((Below.refl w1.heap.size w2).drew.trans hb)); clear hb
      have HK := Lib.hid hK; clear hK
      all_goals (
      have hx3 := (ht 3 rfl).trans rfl
      have es3 : a.tmps.getD 3 undef = _ := getD_of hx3; clear hx3
      have hx16 : a.tmps[16]? = some (.int .u8 0) := hd 5 _ rfl (by kernel_rfl)
      have es16 : a.tmps.getD 16 undef = _ := getD_of hx16; clear hx16
      clear ht hd
      clear hM
      refine wpOp_step (by simp only [List.getElem?_toArray, List.getElem?_cons_succ, List.getElem?_cons_zero]; rfl) (fun K' hK' => ?_)
      have HK' := Lib.hid hK'; clear hK'
      go_simp
      exact HK'.out _ _ HK.out)
    · intro a wz K hb ht hd hM hK
      have hbw := Lib.hid (C2.out.trans ((Below.refl w1.heap.size w2).drew.trans hb)); clear hb
      have HK := Lib.hid hK; clear hK
      all_goals (
      have hx17 : a.tmps[17]? = some (.pointer (some ⟨w.heap.size, 0, none⟩)) := hd 6 _ rfl (by kernel_rfl)
      have es17 : a.tmps.getD 17 undef = _ := getD_of hx17; clear hx17
      clear ht hd
      clear hM
      have zc0 := (FA_1.out.below hbw.out (Nat.le_refl _)).cell 0 (v := .int .i64 a0_0) rfl
      have zc1 := (FA_1.out.below hbw.out (Nat.le_refl _)).cell 1 (v := .int .i64 a0_1) rfl
      refine wpOp_step (by simp only [List.getElem?_toArray, List.getElem?_cons_succ, List.getElem?_cons_zero]; rfl) (fun K' hK' => ?_)
      have HK' := Lib.hid hK'; clear hK'
      go_simp
      exact HK'.out _ _ HK.out)
    · intro a wz K hb ht hd hM hK
      have hbw := Lib.hid (C2.out.trans ((Below.refl w1.heap.size w2).drew.trans hb)); clear hb
      have HK := Lib.hid hK; clear hK
      all_goals (
      have hx1 := (ht 1 rfl).trans rfl
      have es1 : a.tmps.getD 1 undef = _ := getD_of hx1; clear hx1
      clear ht hd
      clear hM
      refine wpOp_step (by simp only [List.getElem?_toArray, List.getElem?_cons_succ, List.getElem?_cons_zero]; rfl) (fun K' hK' => ?_)
      have HK' := Lib.hid hK'; clear hK'
      go_simp
      exact HK'.out _ _ HK.out)
    · intro a wz K hb ht hd hM hK
      have hbw := Lib.hid (C2.out.trans ((Below.refl w1.heap.size w2).drew.trans hb)); clear hb
      have HK := Lib.hid hK; clear hK
      all_goals (
      have hx19 : a.tmps[19]? = some (.int .u8 a1) := hd 8 _ rfl (by kernel_rfl)
      have es19 : a.tmps.getD 19 undef = _ := getD_of hx19; clear hx19
      clear ht hd
      clear hM
      refine wpOp_step (by simp only [List.getElem?_toArray, List.getElem?_cons_succ, List.getElem?_cons_zero]; rfl) (fun K' hK' => ?_)
      have HK' := Lib.hid hK'; clear hK'
      go_simp
      exact HK'.out _ _ HK.out)
    · intro a wz K hb ht hd hM hK
      have hbw := Lib.hid (C2.out.trans ((Below.refl w1.heap.size w2).drew.trans hb)); clear hb
      have HK := Lib.hid hK; clear hK
      all_goals (
      have hx3 := (ht 3 rfl).trans rfl
      have es3 : a.tmps.getD 3 undef = _ := getD_of hx3; clear hx3
      have hx20 : a.tmps[20]? = some (.int .u8 0) := hd 9 _ rfl (by kernel_rfl)
      have es20 : a.tmps.getD 20 undef = _ := getD_of hx20; clear hx20
      clear ht hd
      clear hM
      refine wpOp_step (by simp only [List.getElem?_toArray, List.getElem?_cons_succ, List.getElem?_cons_zero]; rfl) (fun K' hK' => ?_)
      have HK' := Lib.hid hK'; clear hK'
      go_simp
      exact HK'.out _ _ HK.out)
    · intro a wz K hb ht hd hM hK
      have hbw := Lib.hid (C2.out.trans ((Below.refl w1.heap.size w2).drew.trans hb)); clear hb
      have HK := Lib.hid hK; clear hK
      all_goals (
      have hx21 : a.tmps[21]? = some (.pointer (some ⟨w.heap.size, 0, none⟩)) := hd 10 _ rfl (by kernel_rfl)
      have es21 : a.tmps.getD 21 undef = _ := getD_of hx21; clear hx21
      clear ht hd
      clear hM
      have zc0 := (FA_1.out.below hbw.out (Nat.le_refl _)).cell 0 (v := .int .i64 a0_0) rfl
      have zc1 := (FA_1.out.below hbw.out (Nat.le_refl _)).cell 1 (v := .int .i64 a0_1) rfl
      refine wpOp_step (by simp only [List.getElem?_toArray, List.getElem?_cons_succ, List.getElem?_cons_zero]; rfl) (fun K' hK' => ?_)
      have HK' := Lib.hid hK'; clear hK'
      go_simp
      exact HK'.out _ _ HK.out)
    · intro a wz K hb ht hd hM hK
      have hbw := Lib.hid (C2.out.trans ((Below.refl w1.heap.size w2).drew.trans hb)); clear hb
      have HK := Lib.hid hK; clear hK
      all_goals (
      have hx7 := (ht 7 rfl).trans rfl
      have es7 : a.tmps.getD 7 undef = _ := getD_of hx7; clear hx7
      have hx12 : a.tmps[12]? = some (.int .u8 0) := hd 1 _ rfl (by kernel_rfl)
      have es12 : a.tmps.getD 12 undef = _ := getD_of hx12; clear hx12
      clear ht hd
      clear hM
      refine wpOp_step (by simp only [List.getElem?_toArray, List.getElem?_cons_succ, List.getElem?_cons_zero]; rfl) (fun K' hK' => ?_)
      have HK' := Lib.hid hK'; clear hK'
      go_simp
      exact HK'.out _ _ HK.out)
    · intro a wz K hb ht hd hM hK
      have hbw := Lib.hid (C2.out.trans ((Below.refl w1.heap.size w2).drew.trans hb)); clear hb
      have HK := Lib.hid hK; clear hK
      all_goals (
      have hx7 := (ht 7 rfl).trans rfl
      have es7 : a.tmps.getD 7 undef = _ := getD_of hx7; clear hx7
      have hx14 : a.tmps[14]? = some (.int .u8 0) := hd 3 _ rfl (by kernel_rfl)
      have es14 : a.tmps.getD 14 undef = _ := getD_of hx14; clear hx14
      clear ht hd
      clear hM
      refine wpOp_step (by simp only [List.getElem?_toArray, List.getElem?_cons_succ, List.getElem?_cons_zero]; rfl) (fun K' hK' => ?_)
      have HK' := Lib.hid hK'; clear hK'
      go_simp
      exact HK'.out _ _ HK.out)
  · refine ⟨?_, ?_, trivial⟩
    · intro a wz cs K hb ht hd hbx hsz hK
      have HK := Lib.hid hK; clear hK hb
      all_goals (
      have hx23 : a.tmps[23]? = some (.pointer (some ⟨w.heap.size + 1, 0, none⟩)) := hd 12 _ rfl (by kernel_rfl)
      have es23 : a.tmps.getD 23 undef = _ := getD_of hx23; clear hx23
      have hx18 : a.tmps[18]? = some (.agg #[.int .i64 a0_0, .int .i64 a0_1]) := hd 7 _ rfl (by kernel_rfl)
      have es18 : a.tmps.getD 18 undef = _ := getD_of hx18; clear hx18
      clear ht hd
      obtain ⟨zv0, zc0⟩ := hbx.some (i := 0 + 0) (by rw [hsz]; simp); have zf0 := hbx.free (0 + 0)
      obtain ⟨zv1, zc1⟩ := hbx.some (i := 0 + 1) (by rw [hsz]; simp); have zf1 := hbx.free (0 + 1)
      have zl := hbx.lt; clear hbx hsz
      refine wpOp_step (by simp only [List.getElem?_toArray, List.getElem?_cons_succ, List.getElem?_cons_zero]; rfl) (fun K' hK' => ?_)
      have HK' := Lib.hid hK'; clear hK'
      go_simp
      exact HK'.out _ _ HK.out)
    · intro a wz cs K hb ht hd hbx hsz hK
      have HK := Lib.hid hK; clear hK hb
      all_goals (
      have hx24 : a.tmps[24]? = some (.pointer (some ⟨w.heap.size + 1, 0, none⟩)) := hd 13 _ rfl (by kernel_rfl)
      have es24 : a.tmps.getD 24 undef = _ := getD_of hx24; clear hx24
      have hx22 : a.tmps[22]? = some (.agg #[.int .i64 a0_0, .int .i64 a0_1]) := hd 11 _ rfl (by kernel_rfl)
      have es22 : a.tmps.getD 22 undef = _ := getD_of hx22; clear hx22
      clear ht hd
      obtain ⟨zv0, zc0⟩ := hbx.some (i := 0 + 0) (by rw [hsz]; simp); have zf0 := hbx.free (0 + 0)
      obtain ⟨zv1, zc1⟩ := hbx.some (i := 0 + 1) (by rw [hsz]; simp); have zf1 := hbx.free (0 + 1)
      have zl := hbx.lt; clear hbx hsz
      refine wpOp_step (by simp only [List.getElem?_toArray, List.getElem?_cons_succ, List.getElem?_cons_zero]; rfl) (fun K' hK' => ?_)
      have HK' := Lib.hid hK'; clear hK'
      go_simp
      exact HK'.out _ _ HK.out)
  intro w3 hb hx
  have C3 := Lib.hid (C2.out.trans ((Below.refl w1.heap.size w2).drew.trans hb)); clear hb
  have M3 : Hid (Bx w3 (w.heap.size + 1) #[.int .i64 a0_0, .int .i64 a0_1, .int .i64 a0_2, .int .i64 a0_3, .int .i64 a0_4, .int .i64 a0_5, .int .i64 a0_6, .int .i64 a0_7] 48) := Lib.hid hx; clear hx M2 MD C2
  simp only [List.foldl_cons, List.foldl_nil, Act.put, List.setIfInBounds_toArray, List.set_cons_zero, List.set_cons_succ]
  have FT_4 := Lib.hid (FT_1.out.below C3.out (Nat.le_refl _))
  have FA_4 := Lib.hid (FA_1.out.below C3.out (Nat.le_refl _))
  have HB4 := Lib.hid (HB1.out.trans (C3.out.mono HB1.out.size))
  have FM_4 := M3
  clear HB1 FT_1 FA_1 C3 M3
  go_wp2_with fail
  have RB4 := Lib.hid (below_drew0 w3)
  have QS4 := Lib.hid (show w3.cell? ⟨w.heap.size, 0, none⟩ = some (.int .i64 a0_0) ∧ w3.cell? ⟨w.heap.size, 1, none⟩ = some (.int .i64 a0_1) ∧ w3.cell? ⟨w.heap.size, 2, none⟩ = some (.int .i64 a0_2) ∧ w3.cell? ⟨w.heap.size, 3, none⟩ = some (.int .i64 a0_3) ∧ w3.cell? ⟨w.heap.size, 4, none⟩ = some (.int .i64 a0_4) ∧ w3.cell? ⟨w.heap.size, 5, none⟩ = some (.int .i64 a0_5) ∧ w3.cell? ⟨w.heap.size, 6, none⟩ = some (.int .i64 a0_6) ∧ w3.cell? ⟨w.heap.size, 7, none⟩ = some (.int .i64 a0_7) ∧ w3.cell? ⟨w.heap.size + 1, 0, none⟩ = some (.int .i64 a0_0) ∧ w3.cell? ⟨w.heap.size + 1, 1, none⟩ = some (.int .i64 a0_1) ∧ w3.cell? ⟨w.heap.size + 1, 2, none⟩ = some (.int .i64 a0_2) ∧ w3.cell? ⟨w.heap.size + 1, 3, none⟩ = some (.int .i64 a0_3) ∧ w3.cell? ⟨w.heap.size + 1, 4, none⟩ = some (.int .i64 a0_4) ∧ w3.cell? ⟨w.heap.size + 1, 5, none⟩ = some (.int .i64 a0_5) ∧ w3.cell? ⟨w.heap.size + 1, 6, none⟩ = some (.int .i64 a0_6) ∧ w3.cell? ⟨w.heap.size + 1, 7, none⟩ = some (.int .i64 a0_7) from ⟨FA_4.out.cell 0 (v := .int .i64 a0_0) rfl, FA_4.out.cell 1 (v := .int .i64 a0_1) rfl, FA_4.out.cell 2 (v := .int .i64 a0_2) rfl, FA_4.out.cell 3 (v := .int .i64 a0_3) rfl, FA_4.out.cell 4 (v := .int .i64 a0_4) rfl, FA_4.out.cell 5 (v := .int .i64 a0_5) rfl, FA_4.out.cell 6 (v := .int .i64 a0_6) rfl, FA_4.out.cell 7 (v := .int .i64 a0_7) rfl, FM_4.out.cell 0 (v := .int .i64 a0_0) rfl, FM_4.out.cell 1 (v := .int .i64 a0_1) rfl, FM_4.out.cell 2 (v := .int .i64 a0_2) rfl, FM_4.out.cell 3 (v := .int .i64 a0_3) rfl, FM_4.out.cell 4 (v := .int .i64 a0_4) rfl, FM_4.out.cell 5 (v := .int .i64 a0_5) rfl, FM_4.out.cell 6 (v := .int .i64 a0_6) rfl, FM_4.out.cell 7 (v := .int .i64 a0_7) rfl⟩)
  have QF4 := Lib.hid (show ∀ w', Below w3.heap.size w3 w' → w'.cell? ⟨w.heap.size, 0, none⟩ = some (.int .i64 a0_0) ∧ w'.cell? ⟨w.heap.size, 1, none⟩ = some (.int .i64 a0_1) ∧ w'.cell? ⟨w.heap.size, 2, none⟩ = some (.int .i64 a0_2) ∧ w'.cell? ⟨w.heap.size, 3, none⟩ = some (.int .i64 a0_3) ∧ w'.cell? ⟨w.heap.size, 4, none⟩ = some (.int .i64 a0_4) ∧ w'.cell? ⟨w.heap.size, 5, none⟩ = some (.int .i64 a0_5) ∧ w'.cell? ⟨w.heap.size, 6, none⟩ = some (.int .i64 a0_6) ∧ w'.cell? ⟨w.heap.size, 7, none⟩ = some (.int .i64 a0_7) ∧ w'.cell? ⟨w.heap.size + 1, 0, none⟩ = some (.int .i64 a0_0) ∧ w'.cell? ⟨w.heap.size + 1, 1, none⟩ = some (.int .i64 a0_1) ∧ w'.cell? ⟨w.heap.size + 1, 2, none⟩ = some (.int .i64 a0_2) ∧ w'.cell? ⟨w.heap.size + 1, 3, none⟩ = some (.int .i64 a0_3) ∧ w'.cell? ⟨w.heap.size + 1, 4, none⟩ = some (.int .i64 a0_4) ∧ w'.cell? ⟨w.heap.size + 1, 5, none⟩ = some (.int .i64 a0_5) ∧ w'.cell? ⟨w.heap.size + 1, 6, none⟩ = some (.int .i64 a0_6) ∧ w'.cell? ⟨w.heap.size + 1, 7, none⟩ = some (.int .i64 a0_7) from fun w' hb => ⟨(FA_4.out.below hb (Nat.le_refl _)).cell 0 (v := .int .i64 a0_0) rfl, (FA_4.out.below hb (Nat.le_refl _)).cell 1 (v := .int .i64 a0_1) rfl, (FA_4.out.below hb (Nat.le_refl _)).cell 2 (v := .int .i64 a0_2) rfl, (FA_4.out.below hb (Nat.le_refl _)).cell 3 (v := .int .i64 a0_3) rfl, (FA_4.out.below hb (Nat.le_refl _)).cell 4 (v := .int .i64 a0_4) rfl, (FA_4.out.below hb (Nat.le_refl _)).cell 5 (v := .int .i64 a0_5) rfl, (FA_4.out.below hb (Nat.le_refl _)).cell 6 (v := .int .i64 a0_6) rfl, (FA_4.out.below hb (Nat.le_refl _)).cell 7 (v := .int .i64 a0_7) rfl, (FM_4.out.below hb (Nat.le_refl _)).cell 0 (v := .int .i64 a0_0) rfl, (FM_4.out.below hb (Nat.le_refl _)).cell 1 (v := .int .i64 a0_1) rfl, (FM_4.out.below hb (Nat.le_refl _)).cell 2 (v := .int .i64 a0_2) rfl, (FM_4.out.below hb (Nat.le_refl _)).cell 3 (v := .int .i64 a0_3) rfl, (FM_4.out.below hb (Nat.le_refl _)).cell 4 (v := .int .i64 a0_4) rfl, (FM_4.out.below hb (Nat.le_refl _)).cell 5 (v := .int .i64 a0_5) rfl, (FM_4.out.below hb (Nat.le_refl _)).cell 6 (v := .int .i64 a0_6) rfl, (FM_4.out.below hb (Nat.le_refl _)).cell 7 (v := .int .i64 a0_7) rfl⟩)
  go_region_held3 (fun w' => w'.cell? ⟨w.heap.size, 0, none⟩ = some (.int .i64 a0_0) ∧ w'.cell? ⟨w.heap.size, 1, none⟩ = some (.int .i64 a0_1) ∧ w'.cell? ⟨w.heap.size, 2, none⟩ = some (.int .i64 a0_2) ∧ w'.cell? ⟨w.heap.size, 3, none⟩ = some (.int .i64 a0_3) ∧ w'.cell? ⟨w.heap.size, 4, none⟩ = some (.int .i64 a0_4) ∧ w'.cell? ⟨w.heap.size, 5, none⟩ = some (.int .i64 a0_5) ∧ w'.cell? ⟨w.heap.size, 6, none⟩ = some (.int .i64 a0_6) ∧ w'.cell? ⟨w.heap.size, 7, none⟩ = some (.int .i64 a0_7) ∧ w'.cell? ⟨w.heap.size + 1, 0, none⟩ = some (.int .i64 a0_0) ∧ w'.cell? ⟨w.heap.size + 1, 1, none⟩ = some (.int .i64 a0_1) ∧ w'.cell? ⟨w.heap.size + 1, 2, none⟩ = some (.int .i64 a0_2) ∧ w'.cell? ⟨w.heap.size + 1, 3, none⟩ = some (.int .i64 a0_3) ∧ w'.cell? ⟨w.heap.size + 1, 4, none⟩ = some (.int .i64 a0_4) ∧ w'.cell? ⟨w.heap.size + 1, 5, none⟩ = some (.int .i64 a0_5) ∧ w'.cell? ⟨w.heap.size + 1, 6, none⟩ = some (.int .i64 a0_6) ∧ w'.cell? ⟨w.heap.size + 1, 7, none⟩ = some (.int .i64 a0_7)) (first | with_reducible exact QF4.out _ RB6.out | with_reducible exact QF4.out _ RB5.out | with_reducible exact QS4.out | with_reducible exact QF4.out _ RB4.out) (first
      | (go_at_call 31; have := RB5; clear this; refine (circle_Value a0_0 a0_1 a0_2 a0_3 a0_4 a0_5 a0_6 a0_7 q2 _).mono ?_; rintro e w6 ⟨⟨U2, u2, rfl, S2⟩, B⟩; have RB6 := Lib.hid (RB5.out.trans (B.mono RB5.out.size)); have RV1_6 := Lib.hid (RV1_5.out.below B (Nat.le_refl _)); have RV2_6 := Lib.hid S2; clear B S2)
      | (go_at_call 31; have := RB4; clear this; refine (circle_Value a0_0 a0_1 a0_2 a0_3 a0_4 a0_5 a0_6 a0_7 q1 _).mono ?_; rintro e w5 ⟨⟨U1, u1, rfl, S1⟩, B⟩; have RB5 := Lib.hid (RB4.out.trans (B.mono RB4.out.size)); have RV1_5 := Lib.hid S1; clear B S1))
  have FT_6 := Lib.hid (FT_4.out.below RB6.out (Nat.le_refl _))
  have FA_6 := Lib.hid (FA_4.out.below RB6.out (Nat.le_refl _))
  have FM_6 := Lib.hid (FM_4.out.below RB6.out (Nat.le_refl _))
  have HB6 := Lib.hid (HB4.out.trans (RB6.out.mono HB4.out.size))
  clear HB4 FT_4 FA_4 FM_4
  go_wp2_with fail
  refine (alive7 _ FT_6.out).mono ?_
  rintro e w7 ⟨rfl, B⟩
  have HB7 := Lib.hid (HB6.out.trans (B.mono HB6.out.size))
  have FT_7 := Lib.hid (FT_6.out.below B (Nat.le_refl _))
  have FV1_7 := Lib.hid (RV1_6.out.below B (Nat.le_refl _))
  have FV2_7 := Lib.hid (RV2_6.out.below B (Nat.le_refl _))
  clear B  HB6 FT_6 RV1_6 RV2_6
  go_wp2_with fail
  refine (ref3_Same _ _ _ _ _ _ _ _ FV1_7.out FV2_7.out (fun _ _ => rfl)).mono ?_
  rintro e w8 ⟨rfl, B⟩
  have HB8 := Lib.hid (HB7.out.trans (B.mono HB7.out.size))
  have FT_8 := Lib.hid (FT_7.out.below B (Nat.le_refl _))
  have FV1_8 := Lib.hid (FV1_7.out.below B (Nat.le_refl _))
  have FV2_8 := Lib.hid (FV2_7.out.below B (Nat.le_refl _))
  clear B  HB7 FT_7 FV1_7 FV2_7
  go_wp2_with fail
  go_ret
  exact ⟨rfl, HB8.out⟩

set_option maxHeartbeats 4000000 in
theorem alt7_01 {w : World} (a0_0 a0_1 a0_2 a0_3 a0_4 a0_5 a0_6 a0_7 : Int) (w0_0 : (Lit.int .i64 a0_0).wf = true) (w0_1 : (Lit.int .i64 a0_1).wf = true) (w0_2 : (Lit.int .i64 a0_2).wf = true) (w0_3 : (Lit.int .i64 a0_3).wf = true) (w0_4 : (Lit.int .i64 a0_4).wf = true) (w0_5 : (Lit.int .i64 a0_5).wf = true) (w0_6 : (Lit.int .i64 a0_6).wf = true) (w0_7 : (Lit.int .i64 a0_7).wf = true) (a1 : Int) (w1 : (Lit.int .u8 a1).wf = true) (a2 : Int) (w2 : (Lit.int .u8 a2).wf = true) (hT : TabM w) (e1 : a1.tmod 4 = 0) (e2 : a2.tmod 4 = 1) :
    Calls Tryd.prog 11 #[.agg #[.int .i64 a0_0, .int .i64 a0_1, .int .i64 a0_2, .int .i64 a0_3, .int .i64 a0_4, .int .i64 a0_5, .int .i64 a0_6, .int .i64 a0_7], .int .u8 a1, .int .u8 a2] w fun e w' => e = .returned (.bool true) ∧ Below w.heap.size w w' := by
  have HB0 := Lib.hid (Below.refl w.heap.size w)
  have i0_0 := isI_of_wf w0_0
  have i0_1 := isI_of_wf w0_1
  have i0_2 := isI_of_wf w0_2
  have i0_3 := isI_of_wf w0_3
  have i0_4 := isI_of_wf w0_4
  have i0_5 := isI_of_wf w0_5
  have i0_6 := isI_of_wf w0_6
  have i0_7 := isI_of_wf w0_7
  have FT := Lib.hid hT; clear hT
  have hfd : ∀ (s : Int) (V : Option Addr) (k c : Nat) (w : World), (Instr.field 26 (.agg #[.int .i64 s, .slice V k c]) 0).run Tryd.prog w = .ok (.int .i64 s) w := fun _ _ _ _ _ => by kernel_rfl
  have hv1 : IntKind.u8.wrap 0 = 0 := (by decide)
  have hv2 : IntKind.u8.wrap 1 = 1 := (by decide)
  clear w1 w2
  have q1 := (show P4 a0_0 a0_1 a0_2 a0_3 a0_4 a0_5 a0_6 a0_7 from ⟨i0_0, i0_1, i0_2, i0_3, i0_4, i0_5, i0_6, i0_7⟩)
  have q2 := (show P4 a0_2 a0_3 a0_0 a0_1 a0_4 a0_5 a0_6 a0_7 from ⟨i0_2, i0_3, i0_0, i0_1, i0_4, i0_5, i0_6, i0_7⟩)
  have hz := Lib.hid (show circ a0_0 a0_1 a0_2 a0_3 a0_4 a0_5 a0_6 a0_7 + circ a0_2 a0_3 a0_0 a0_1 a0_4 a0_5 a0_6 a0_7 = 0 from by unfold circ nrm mnr; grind)
  go_enter Tryd.func11, Tryd.ntmps11
  go_wp2_with fail
  have B : Below w.heap.size w (w.alloc (.cells #[.int .i64 a0_0, .int .i64 a0_1, .int .i64 a0_2, .int .i64 a0_3, .int .i64 a0_4, .int .i64 a0_5, .int .i64 a0_6, .int .i64 a0_7] 48)) := (HB0.out.alloc HB0.out.size _)
  have C : Below w.heap.size w (w.alloc (.cells #[.int .i64 a0_0, .int .i64 a0_1, .int .i64 a0_2, .int .i64 a0_3, .int .i64 a0_4, .int .i64 a0_5, .int .i64 a0_6, .int .i64 a0_7] 48)) := ((Below.refl w.heap.size w).alloc (Nat.le_refl _) _)
  have X0 : Bx (w.alloc (.cells #[.int .i64 a0_0, .int .i64 a0_1, .int .i64 a0_2, .int .i64 a0_3, .int .i64 a0_4, .int .i64 a0_5, .int .i64 a0_6, .int .i64 a0_7] 48)) (w.heap.size) #[.int .i64 a0_0, .int .i64 a0_1, .int .i64 a0_2, .int .i64 a0_3, .int .i64 a0_4, .int .i64 a0_5, .int .i64 a0_6, .int .i64 a0_7] 48 := by simpa using (Bx.new w #[.int .i64 a0_0, .int .i64 a0_1, .int .i64 a0_2, .int .i64 a0_3, .int .i64 a0_4, .int .i64 a0_5, .int .i64 a0_6, .int .i64 a0_7] 48)
  have FT_1 := Lib.hid (FT.out.below C (Nat.le_refl _))
  have HB1 := Lib.hid B
  have FA_1 := Lib.hid X0
  clear B C X0 HB0 FT
  have HSZ := Lib.hid (show (w.alloc (.cells #[.int .i64 a0_0, .int .i64 a0_1, .int .i64 a0_2, .int .i64 a0_3, .int .i64 a0_4, .int .i64 a0_5, .int .i64 a0_6, .int .i64 a0_7] 48)).heap.size = w.heap.size + 1 from by simp)
  generalize (w.alloc (.cells #[.int .i64 a0_0, .int .i64 a0_1, .int .i64 a0_2, .int .i64 a0_3, .int .i64 a0_4, .int .i64 a0_5, .int .i64 a0_6, .int .i64 a0_7] 48)) = w1 at *
  have C2 := Lib.hid (show Below w1.heap.size w1 (w1.alloc (.cells #[.int .i64 a0_0, .int .i64 a0_1, .int .i64 a0_2, .int .i64 a0_3, .int .i64 a0_4, .int .i64 a0_5, .int .i64 a0_6, .int .i64 a0_7] 48)) from below_al below_rf)
  have M2 := Lib.hid (show Bx (w1.alloc (.cells #[.int .i64 a0_0, .int .i64 a0_1, .int .i64 a0_2, .int .i64 a0_3, .int .i64 a0_4, .int .i64 a0_5, .int .i64 a0_6, .int .i64 a0_7] 48)) (w.heap.size + 1) #[.int .i64 a0_0, .int .i64 a0_1, .int .i64 a0_2, .int .i64 a0_3, .int .i64 a0_4, .int .i64 a0_5, .int .i64 a0_6, .int .i64 a0_7] 48 from bx_new HSZ.out.symm)
  generalize (w1.alloc (.cells #[.int .i64 a0_0, .int .i64 a0_1, .int .i64 a0_2, .int .i64 a0_3, .int .i64 a0_4, .int .i64 a0_5, .int .i64 a0_6, .int .i64 a0_7] 48)) = w2 at *
  go_upto_region 2 with (fail)
  have MD := Lib.hid (show Bx w2.drew (w.heap.size + 1) #[.int .i64 a0_0, .int .i64 a0_1, .int .i64 a0_2, .int .i64 a0_3, .int .i64 a0_4, .int .i64 a0_5, .int .i64 a0_6, .int .i64 a0_7] 48 from bx_dr M2.out)
  refine wp_region_held_drew (S := fun _ => True) (by kernel_rfl) trivial (fun _ => ?_)
  refine wpAnyH_genM w1.heap.size (w.heap.size + 1) 48 #[.int .i64 a0_0, .int .i64 a0_1, .int .i64 a0_2, .int .i64 a0_3, .int .i64 a0_4, .int .i64 a0_5, .int .i64 a0_6, .int .i64 a0_7] [⟨13, 0, [.int .i64 a0_2, .int .i64 a0_3]⟩, ⟨15, 2, [.int .i64 a0_0, .int .i64 a0_1]⟩] [⟨0, 11, .int .u8 a1⟩, ⟨1, 12, .int .u8 0⟩, ⟨2, 13, .int .u8 a2⟩, ⟨3, 14, .int .u8 1⟩, ⟨4, 15, .int .u8 a2⟩, ⟨5, 16, .int .u8 1⟩, ⟨6, 17, .pointer (some ⟨w.heap.size, 2, none⟩)⟩, ⟨7, 18, .agg #[.int .i64 a0_2, .int .i64 a0_3]⟩, ⟨8, 19, .int .u8 a1⟩, ⟨9, 20, .int .u8 0⟩, ⟨10, 21, .pointer (some ⟨w.heap.size, 0, none⟩)⟩, ⟨11, 22, .agg #[.int .i64 a0_0, .int .i64 a0_1]⟩, ⟨12, 23, .pointer (some ⟨w.heap.size + 1, 0, none⟩)⟩, ⟨14, 24, .pointer (some ⟨w.heap.size + 1, 2, none⟩)⟩] (by kernel_rfl) (fun _ => trivial) (Nat.le_of_eq HSZ.out) MD.out ?_ ?_ ?_
  · refine ⟨?_, ?_, ?_, ?_, ?_, ?_, ?_, ?_, ?_, ?_, ?_, ?_, ?_, ?_, trivial⟩
    · intro a wz K hb ht hd hM hK
      have hbw := Lib.hid (C2.out.trans ((Below.refl w1.heap.size w2).drew.trans hb)); clear hb
      have HK := Lib.hid hK; clear hK
      all_goals (
      have hx1 := (ht 1 rfl).trans rfl
      have es1 : a.tmps.getD 1 undef = _ := getD_of hx1; clear hx1
      clear ht hd
      clear hM
      refine wpOp_step (by simp only [List.getElem?_toArray, List.getElem?_cons_succ, List.getElem?_cons_zero]; rfl) (fun K' hK' => ?_)
      have HK' := Lib.hid hK'; clear hK'
      go_simp
      exact HK'.out _ _ HK.out)
    · intro a wz K hb ht hd hM hK
      have hbw := Lib.hid (C2.out.trans ((Below.refl w1.heap.size w2).drew.trans hb)); clear hb
      have HK := Lib.hid hK; clear hK
      all_goals (
      have hx11 : a.tmps[11]? = some (.int .u8 a1) := hd 0 _ rfl (by kernel_rfl)
      have es11 : a.tmps.getD 11 undef = _ := getD_of hx11; clear hx11
      clear ht hd
      clear hM
      refine wpOp_step (by simp only [List.getElem?_toArray, List.getElem?_cons_succ, List.getElem?_cons_zero]; rfl) (fun K' hK' => ?_)
      have HK' := Lib.hid hK'; clear hK'
      go_simp
      exact HK'.out _ _ HK.out)
    · intro a wz K hb ht hd hM hK
      have hbw := Lib.hid (C2.out.trans ((Below.refl w1.heap.size w2).drew.trans hb)); clear hb
      have HK := Lib.hid hK; clear hK
      all_goals (
      have hx2 := (ht 2 rfl).trans rfl
      have es2 : a.tmps.getD 2 undef = _ := getD_of hx2; clear hx2
      clear ht hd
      clear hM
      refine wpOp_step (by simp only [List.getElem?_toArray, List.getElem?_cons_succ, List.getElem?_cons_zero]; rfl) (fun K' hK' => ?_)
      have HK' := Lib.hid hK'; clear hK'
      go_simp
      exact HK'.out _ _ HK.out)
    · intro a wz K hb ht hd hM hK
      have hbw := Lib.hid (C2.out.trans ((Below.refl w1.heap.size w2).drew.trans hb)); clear hb
      have HK := Lib.hid hK; clear hK
      all_goals (
      have hx13 : a.tmps[13]? = some (.int .u8 a2) := hd 2 _ rfl (by kernel_rfl)
      have es13 : a.tmps.getD 13 undef = _ := getD_of hx13; clear hx13
      clear ht hd
      clear hM
      refine wpOp_step (by simp only [List.getElem?_toArray, List.getElem?_cons_succ, List.getElem?_cons_zero]; rfl) (fun K' hK' => ?_)
      have HK' := Lib.hid hK'; clear hK'
      go_simp
      exact HK'.out _ _ HK.out)
    · intro a wz K hb ht hd hM hK
      have hbw := Lib.hid (C2.out.trans ((Below.refl w1.heap.size w2).drew.trans hb)); clear hb
      have HK := Lib.hid hK; clear hK
      all_goals (
      have hx2 := (ht 2 rfl).trans rfl
      have es2 : a.tmps.getD 2 undef = _ := getD_of hx2; clear hx2
      clear ht hd
      clear hM
      refine wpOp_step (by simp only [List.getElem?_toArray, List.getElem?_cons_succ, List.getElem?_cons_zero]; rfl) (fun K' hK' => ?_)
      have HK' := Lib.hid hK'; clear hK'
      go_simp
      exact HK'.out _ _ HK.out)
    · intro a wz K hb ht hd hM hK
      have hbw := Lib.hid (C2.out.trans ((Below.refl w1.heap.size w2).drew.trans hb)); clear hb
      have HK := Lib.hid hK; clear hK
      all_goals (
      have hx15 : a.tmps[15]? = some (.int .u8 a2) := hd 4 _ rfl (by kernel_rfl)
      have es15 : a.tmps.getD 15 undef = _ := getD_of hx15; clear hx15
      clear ht hd
      clear hM
      refine wpOp_step (by simp only [List.getElem?_toArray, List.getElem?_cons_succ, List.getElem?_cons_zero]; rfl) (fun K' hK' => ?_)
      have HK' := Lib.hid hK'; clear hK'
      go_simp
      exact HK'.out _ _ HK.out)
    · intro a wz K hb ht hd hM hK
      have hbw := Lib.hid (C2.out.trans ((Below.refl w1.heap.size w2).drew.trans hb)); clear hb
      have HK := Lib.hid hK; clear hK
      all_goals (
      have hx3 := (ht 3 rfl).trans rfl
      have es3 : a.tmps.getD 3 undef = _ := getD_of hx3; clear hx3
      have hx16 : a.tmps[16]? = some (.int .u8 1) := hd 5 _ rfl (by kernel_rfl)
      have es16 : a.tmps.getD 16 undef = _ := getD_of hx16; clear hx16
      clear ht hd
      clear hM
      refine wpOp_step (by simp only [List.getElem?_toArray, List.getElem?_cons_succ, List.getElem?_cons_zero]; rfl) (fun K' hK' => ?_)
      have HK' := Lib.hid hK'; clear hK'
      go_simp
      exact HK'.out _ _ HK.out)
    · intro a wz K hb ht hd hM hK
      have hbw := Lib.hid (C2.out.trans ((Below.refl w1.heap.size w2).drew.trans hb)); clear hb
      have HK := Lib.hid hK; clear hK
      all_goals (
      have hx17 : a.tmps[17]? = some (.pointer (some ⟨w.heap.size, 2, none⟩)) := hd 6 _ rfl (by kernel_rfl)
      have es17 : a.tmps.getD 17 undef = _ := getD_of hx17; clear hx17
      clear ht hd
      clear hM
      have zc0 := (FA_1.out.below hbw.out (Nat.le_refl _)).cell 2 (v := .int .i64 a0_2) rfl
      have zc1 := (FA_1.out.below hbw.out (Nat.le_refl _)).cell 3 (v := .int .i64 a0_3) rfl
      refine wpOp_step (by simp only [List.getElem?_toArray, List.getElem?_cons_succ, List.getElem?_cons_zero]; rfl) (fun K' hK' => ?_)
      have HK' := Lib.hid hK'; clear hK'
      go_simp
      exact HK'.out _ _ HK.out)
    · intro a wz K hb ht hd hM hK
      have hbw := Lib.hid (C2.out.trans ((Below.refl w1.heap.size w2).drew.trans hb)); clear hb
      have HK := Lib.hid hK; clear hK
      all_goals (
      have hx1 := (ht 1 rfl).trans rfl
      have es1 : a.tmps.getD 1 undef = _ := getD_of hx1; clear hx1
      clear ht hd
      clear hM
      refine wpOp_step (by simp only [List.getElem?_toArray, List.getElem?_cons_succ, List.getElem?_cons_zero]; rfl) (fun K' hK' => ?_)
      have HK' := Lib.hid hK'; clear hK'
      go_simp
      exact HK'.out _ _ HK.out)
    · intro a wz K hb ht hd hM hK
      have hbw := Lib.hid (C2.out.trans ((Below.refl w1.heap.size w2).drew.trans hb)); clear hb
      have HK := Lib.hid hK; clear hK
      all_goals (
      have hx19 : a.tmps[19]? = some (.int .u8 a1) := hd 8 _ rfl (by kernel_rfl)
      have es19 : a.tmps.getD 19 undef = _ := getD_of hx19; clear hx19
      clear ht hd
      clear hM
      refine wpOp_step (by simp only [List.getElem?_toArray, List.getElem?_cons_succ, List.getElem?_cons_zero]; rfl) (fun K' hK' => ?_)
      have HK' := Lib.hid hK'; clear hK'
      go_simp
      exact HK'.out _ _ HK.out)
    · intro a wz K hb ht hd hM hK
      have hbw := Lib.hid (C2.out.trans ((Below.refl w1.heap.size w2).drew.trans hb)); clear hb
      have HK := Lib.hid hK; clear hK
      all_goals (
      have hx3 := (ht 3 rfl).trans rfl
      have es3 : a.tmps.getD 3 undef = _ := getD_of hx3; clear hx3
      have hx20 : a.tmps[20]? = some (.int .u8 0) := hd 9 _ rfl (by kernel_rfl)
      have es20 : a.tmps.getD 20 undef = _ := getD_of hx20; clear hx20
      clear ht hd
      clear hM
      refine wpOp_step (by simp only [List.getElem?_toArray, List.getElem?_cons_succ, List.getElem?_cons_zero]; rfl) (fun K' hK' => ?_)
      have HK' := Lib.hid hK'; clear hK'
      go_simp
      exact HK'.out _ _ HK.out)
    · intro a wz K hb ht hd hM hK
      have hbw := Lib.hid (C2.out.trans ((Below.refl w1.heap.size w2).drew.trans hb)); clear hb
      have HK := Lib.hid hK; clear hK
      all_goals (
      have hx21 : a.tmps[21]? = some (.pointer (some ⟨w.heap.size, 0, none⟩)) := hd 10 _ rfl (by kernel_rfl)
      have es21 : a.tmps.getD 21 undef = _ := getD_of hx21; clear hx21
      clear ht hd
      clear hM
      have zc0 := (FA_1.out.below hbw.out (Nat.le_refl _)).cell 0 (v := .int .i64 a0_0) rfl
      have zc1 := (FA_1.out.below hbw.out (Nat.le_refl _)).cell 1 (v := .int .i64 a0_1) rfl
      refine wpOp_step (by simp only [List.getElem?_toArray, List.getElem?_cons_succ, List.getElem?_cons_zero]; rfl) (fun K' hK' => ?_)
      have HK' := Lib.hid hK'; clear hK'
      go_simp
      exact HK'.out _ _ HK.out)
    · intro a wz K hb ht hd hM hK
      have hbw := Lib.hid (C2.out.trans ((Below.refl w1.heap.size w2).drew.trans hb)); clear hb
      have HK := Lib.hid hK; clear hK
      all_goals (
      have hx7 := (ht 7 rfl).trans rfl
      have es7 : a.tmps.getD 7 undef = _ := getD_of hx7; clear hx7
      have hx12 : a.tmps[12]? = some (.int .u8 0) := hd 1 _ rfl (by kernel_rfl)
      have es12 : a.tmps.getD 12 undef = _ := getD_of hx12; clear hx12
      clear ht hd
      clear hM
      refine wpOp_step (by simp only [List.getElem?_toArray, List.getElem?_cons_succ, List.getElem?_cons_zero]; rfl) (fun K' hK' => ?_)
      have HK' := Lib.hid hK'; clear hK'
      go_simp
      exact HK'.out _ _ HK.out)
    · intro a wz K hb ht hd hM hK
      have hbw := Lib.hid (C2.out.trans ((Below.refl w1.heap.size w2).drew.trans hb)); clear hb
      have HK := Lib.hid hK; clear hK
      all_goals (
      have hx7 := (ht 7 rfl).trans rfl
      have es7 : a.tmps.getD 7 undef = _ := getD_of hx7; clear hx7
      have hx14 : a.tmps[14]? = some (.int .u8 1) := hd 3 _ rfl (by kernel_rfl)
      have es14 : a.tmps.getD 14 undef = _ := getD_of hx14; clear hx14
      clear ht hd
      clear hM
      refine wpOp_step (by simp only [List.getElem?_toArray, List.getElem?_cons_succ, List.getElem?_cons_zero]; rfl) (fun K' hK' => ?_)
      have HK' := Lib.hid hK'; clear hK'
      go_simp
      exact HK'.out _ _ HK.out)
  · refine ⟨?_, ?_, trivial⟩
    · intro a wz cs K hb ht hd hbx hsz hK
      have HK := Lib.hid hK; clear hK hb
      all_goals (
      have hx23 : a.tmps[23]? = some (.pointer (some ⟨w.heap.size + 1, 0, none⟩)) := hd 12 _ rfl (by kernel_rfl)
      have es23 : a.tmps.getD 23 undef = _ := getD_of hx23; clear hx23
      have hx18 : a.tmps[18]? = some (.agg #[.int .i64 a0_2, .int .i64 a0_3]) := hd 7 _ rfl (by kernel_rfl)
      have es18 : a.tmps.getD 18 undef = _ := getD_of hx18; clear hx18
      clear ht hd
      obtain ⟨zv0, zc0⟩ := hbx.some (i := 0 + 0) (by rw [hsz]; simp); have zf0 := hbx.free (0 + 0)
      obtain ⟨zv1, zc1⟩ := hbx.some (i := 0 + 1) (by rw [hsz]; simp); have zf1 := hbx.free (0 + 1)
      have zl := hbx.lt; clear hbx hsz
      refine wpOp_step (by simp only [List.getElem?_toArray, List.getElem?_cons_succ, List.getElem?_cons_zero]; rfl) (fun K' hK' => ?_)
      have HK' := Lib.hid hK'; clear hK'
      go_simp
      exact HK'.out _ _ HK.out)
    · intro a wz cs K hb ht hd hbx hsz hK
      have HK := Lib.hid hK; clear hK hb
      all_goals (
      have hx24 : a.tmps[24]? = some (.pointer (some ⟨w.heap.size + 1, 2, none⟩)) := hd 13 _ rfl (by kernel_rfl)
      have es24 : a.tmps.getD 24 undef = _ := getD_of hx24; clear hx24
      have hx22 : a.tmps[22]? = some (.agg #[.int .i64 a0_0, .int .i64 a0_1]) := hd 11 _ rfl (by kernel_rfl)
      have es22 : a.tmps.getD 22 undef = _ := getD_of hx22; clear hx22
      clear ht hd
      obtain ⟨zv0, zc0⟩ := hbx.some (i := 2 + 0) (by rw [hsz]; simp); have zf0 := hbx.free (2 + 0)
      obtain ⟨zv1, zc1⟩ := hbx.some (i := 2 + 1) (by rw [hsz]; simp); have zf1 := hbx.free (2 + 1)
      have zl := hbx.lt; clear hbx hsz
      refine wpOp_step (by simp only [List.getElem?_toArray, List.getElem?_cons_succ, List.getElem?_cons_zero]; rfl) (fun K' hK' => ?_)
      have HK' := Lib.hid hK'; clear hK'
      go_simp
      exact HK'.out _ _ HK.out)
  intro w3 hb hx
  have C3 := Lib.hid (C2.out.trans ((Below.refl w1.heap.size w2).drew.trans hb)); clear hb
  have M3 : Hid (Bx w3 (w.heap.size + 1) #[.int .i64 a0_2, .int .i64 a0_3, .int .i64 a0_0, .int .i64 a0_1, .int .i64 a0_4, .int .i64 a0_5, .int .i64 a0_6, .int .i64 a0_7] 48) := Lib.hid hx; clear hx M2 MD C2
  simp only [List.foldl_cons, List.foldl_nil, Act.put, List.setIfInBounds_toArray, List.set_cons_zero, List.set_cons_succ]
  have FT_4 := Lib.hid (FT_1.out.below C3.out (Nat.le_refl _))
  have FA_4 := Lib.hid (FA_1.out.below C3.out (Nat.le_refl _))
  have HB4 := Lib.hid (HB1.out.trans (C3.out.mono HB1.out.size))
  have FM_4 := M3
  clear HB1 FT_1 FA_1 C3 M3
  go_wp2_with fail
  have RB4 := Lib.hid (below_drew0 w3)
  have QS4 := Lib.hid (show w3.cell? ⟨w.heap.size, 0, none⟩ = some (.int .i64 a0_0) ∧ w3.cell? ⟨w.heap.size, 1, none⟩ = some (.int .i64 a0_1) ∧ w3.cell? ⟨w.heap.size, 2, none⟩ = some (.int .i64 a0_2) ∧ w3.cell? ⟨w.heap.size, 3, none⟩ = some (.int .i64 a0_3) ∧ w3.cell? ⟨w.heap.size, 4, none⟩ = some (.int .i64 a0_4) ∧ w3.cell? ⟨w.heap.size, 5, none⟩ = some (.int .i64 a0_5) ∧ w3.cell? ⟨w.heap.size, 6, none⟩ = some (.int .i64 a0_6) ∧ w3.cell? ⟨w.heap.size, 7, none⟩ = some (.int .i64 a0_7) ∧ w3.cell? ⟨w.heap.size + 1, 0, none⟩ = some (.int .i64 a0_2) ∧ w3.cell? ⟨w.heap.size + 1, 1, none⟩ = some (.int .i64 a0_3) ∧ w3.cell? ⟨w.heap.size + 1, 2, none⟩ = some (.int .i64 a0_0) ∧ w3.cell? ⟨w.heap.size + 1, 3, none⟩ = some (.int .i64 a0_1) ∧ w3.cell? ⟨w.heap.size + 1, 4, none⟩ = some (.int .i64 a0_4) ∧ w3.cell? ⟨w.heap.size + 1, 5, none⟩ = some (.int .i64 a0_5) ∧ w3.cell? ⟨w.heap.size + 1, 6, none⟩ = some (.int .i64 a0_6) ∧ w3.cell? ⟨w.heap.size + 1, 7, none⟩ = some (.int .i64 a0_7) from ⟨FA_4.out.cell 0 (v := .int .i64 a0_0) rfl, FA_4.out.cell 1 (v := .int .i64 a0_1) rfl, FA_4.out.cell 2 (v := .int .i64 a0_2) rfl, FA_4.out.cell 3 (v := .int .i64 a0_3) rfl, FA_4.out.cell 4 (v := .int .i64 a0_4) rfl, FA_4.out.cell 5 (v := .int .i64 a0_5) rfl, FA_4.out.cell 6 (v := .int .i64 a0_6) rfl, FA_4.out.cell 7 (v := .int .i64 a0_7) rfl, FM_4.out.cell 0 (v := .int .i64 a0_2) rfl, FM_4.out.cell 1 (v := .int .i64 a0_3) rfl, FM_4.out.cell 2 (v := .int .i64 a0_0) rfl, FM_4.out.cell 3 (v := .int .i64 a0_1) rfl, FM_4.out.cell 4 (v := .int .i64 a0_4) rfl, FM_4.out.cell 5 (v := .int .i64 a0_5) rfl, FM_4.out.cell 6 (v := .int .i64 a0_6) rfl, FM_4.out.cell 7 (v := .int .i64 a0_7) rfl⟩)
  have QF4 := Lib.hid (show ∀ w', Below w3.heap.size w3 w' → w'.cell? ⟨w.heap.size, 0, none⟩ = some (.int .i64 a0_0) ∧ w'.cell? ⟨w.heap.size, 1, none⟩ = some (.int .i64 a0_1) ∧ w'.cell? ⟨w.heap.size, 2, none⟩ = some (.int .i64 a0_2) ∧ w'.cell? ⟨w.heap.size, 3, none⟩ = some (.int .i64 a0_3) ∧ w'.cell? ⟨w.heap.size, 4, none⟩ = some (.int .i64 a0_4) ∧ w'.cell? ⟨w.heap.size, 5, none⟩ = some (.int .i64 a0_5) ∧ w'.cell? ⟨w.heap.size, 6, none⟩ = some (.int .i64 a0_6) ∧ w'.cell? ⟨w.heap.size, 7, none⟩ = some (.int .i64 a0_7) ∧ w'.cell? ⟨w.heap.size + 1, 0, none⟩ = some (.int .i64 a0_2) ∧ w'.cell? ⟨w.heap.size + 1, 1, none⟩ = some (.int .i64 a0_3) ∧ w'.cell? ⟨w.heap.size + 1, 2, none⟩ = some (.int .i64 a0_0) ∧ w'.cell? ⟨w.heap.size + 1, 3, none⟩ = some (.int .i64 a0_1) ∧ w'.cell? ⟨w.heap.size + 1, 4, none⟩ = some (.int .i64 a0_4) ∧ w'.cell? ⟨w.heap.size + 1, 5, none⟩ = some (.int .i64 a0_5) ∧ w'.cell? ⟨w.heap.size + 1, 6, none⟩ = some (.int .i64 a0_6) ∧ w'.cell? ⟨w.heap.size + 1, 7, none⟩ = some (.int .i64 a0_7) from fun w' hb => ⟨(FA_4.out.below hb (Nat.le_refl _)).cell 0 (v := .int .i64 a0_0) rfl, (FA_4.out.below hb (Nat.le_refl _)).cell 1 (v := .int .i64 a0_1) rfl, (FA_4.out.below hb (Nat.le_refl _)).cell 2 (v := .int .i64 a0_2) rfl, (FA_4.out.below hb (Nat.le_refl _)).cell 3 (v := .int .i64 a0_3) rfl, (FA_4.out.below hb (Nat.le_refl _)).cell 4 (v := .int .i64 a0_4) rfl, (FA_4.out.below hb (Nat.le_refl _)).cell 5 (v := .int .i64 a0_5) rfl, (FA_4.out.below hb (Nat.le_refl _)).cell 6 (v := .int .i64 a0_6) rfl, (FA_4.out.below hb (Nat.le_refl _)).cell 7 (v := .int .i64 a0_7) rfl, (FM_4.out.below hb (Nat.le_refl _)).cell 0 (v := .int .i64 a0_2) rfl, (FM_4.out.below hb (Nat.le_refl _)).cell 1 (v := .int .i64 a0_3) rfl, (FM_4.out.below hb (Nat.le_refl _)).cell 2 (v := .int .i64 a0_0) rfl, (FM_4.out.below hb (Nat.le_refl _)).cell 3 (v := .int .i64 a0_1) rfl, (FM_4.out.below hb (Nat.le_refl _)).cell 4 (v := .int .i64 a0_4) rfl, (FM_4.out.below hb (Nat.le_refl _)).cell 5 (v := .int .i64 a0_5) rfl, (FM_4.out.below hb (Nat.le_refl _)).cell 6 (v := .int .i64 a0_6) rfl, (FM_4.out.below hb (Nat.le_refl _)).cell 7 (v := .int .i64 a0_7) rfl⟩)
  go_region_held3 (fun w' => w'.cell? ⟨w.heap.size, 0, none⟩ = some (.int .i64 a0_0) ∧ w'.cell? ⟨w.heap.size, 1, none⟩ = some (.int .i64 a0_1) ∧ w'.cell? ⟨w.heap.size, 2, none⟩ = some (.int .i64 a0_2) ∧ w'.cell? ⟨w.heap.size, 3, none⟩ = some (.int .i64 a0_3) ∧ w'.cell? ⟨w.heap.size, 4, none⟩ = some (.int .i64 a0_4) ∧ w'.cell? ⟨w.heap.size, 5, none⟩ = some (.int .i64 a0_5) ∧ w'.cell? ⟨w.heap.size, 6, none⟩ = some (.int .i64 a0_6) ∧ w'.cell? ⟨w.heap.size, 7, none⟩ = some (.int .i64 a0_7) ∧ w'.cell? ⟨w.heap.size + 1, 0, none⟩ = some (.int .i64 a0_2) ∧ w'.cell? ⟨w.heap.size + 1, 1, none⟩ = some (.int .i64 a0_3) ∧ w'.cell? ⟨w.heap.size + 1, 2, none⟩ = some (.int .i64 a0_0) ∧ w'.cell? ⟨w.heap.size + 1, 3, none⟩ = some (.int .i64 a0_1) ∧ w'.cell? ⟨w.heap.size + 1, 4, none⟩ = some (.int .i64 a0_4) ∧ w'.cell? ⟨w.heap.size + 1, 5, none⟩ = some (.int .i64 a0_5) ∧ w'.cell? ⟨w.heap.size + 1, 6, none⟩ = some (.int .i64 a0_6) ∧ w'.cell? ⟨w.heap.size + 1, 7, none⟩ = some (.int .i64 a0_7)) (first | with_reducible exact QF4.out _ RB6.out | with_reducible exact QF4.out _ RB5.out | with_reducible exact QS4.out | with_reducible exact QF4.out _ RB4.out) (first
      | (go_at_call 31; have := RB5; clear this; refine (circle_Value a0_2 a0_3 a0_0 a0_1 a0_4 a0_5 a0_6 a0_7 q2 _).mono ?_; rintro e w6 ⟨⟨U2, u2, rfl, S2⟩, B⟩; have RB6 := Lib.hid (RB5.out.trans (B.mono RB5.out.size)); have RV1_6 := Lib.hid (RV1_5.out.below B (Nat.le_refl _)); have RV2_6 := Lib.hid S2; clear B S2)
      | (go_at_call 31; have := RB4; clear this; refine (circle_Value a0_0 a0_1 a0_2 a0_3 a0_4 a0_5 a0_6 a0_7 q1 _).mono ?_; rintro e w5 ⟨⟨U1, u1, rfl, S1⟩, B⟩; have RB5 := Lib.hid (RB4.out.trans (B.mono RB4.out.size)); have RV1_5 := Lib.hid S1; clear B S1))
  have FT_6 := Lib.hid (FT_4.out.below RB6.out (Nat.le_refl _))
  have FA_6 := Lib.hid (FA_4.out.below RB6.out (Nat.le_refl _))
  have FM_6 := Lib.hid (FM_4.out.below RB6.out (Nat.le_refl _))
  have HB6 := Lib.hid (HB4.out.trans (RB6.out.mono HB4.out.size))
  clear HB4 FT_4 FA_4 FM_4
  go_wp2_with fail
  refine (alive7 _ FT_6.out).mono ?_
  rintro e w7 ⟨rfl, B⟩
  have HB7 := Lib.hid (HB6.out.trans (B.mono HB6.out.size))
  have FT_7 := Lib.hid (FT_6.out.below B (Nat.le_refl _))
  have FV1_7 := Lib.hid (RV1_6.out.below B (Nat.le_refl _))
  have FV2_7 := Lib.hid (RV2_6.out.below B (Nat.le_refl _))
  clear B  HB6 FT_6 RV1_6 RV2_6
  go_wp2_with fail
  refine (ref3_Value _ _ _ _ _ FV1_7.out q1.fit (by omega)).mono ?_
  rintro e w8 ⟨⟨Gx, gx, dx, rfl, bx_, Nx⟩, B⟩
  have HB8 := Lib.hid (HB7.out.trans (B.mono HB7.out.size))
  have FT_8 := Lib.hid (FT_7.out.below B (Nat.le_refl _))
  have FV1_8 := Lib.hid (FV1_7.out.below B (Nat.le_refl _))
  have FV2_8 := Lib.hid (FV2_7.out.below B (Nat.le_refl _))
  have FNx_8 := Lib.hid Nx
  clear B Nx HB7 FT_7 FV1_7 FV2_7
  go_wp2_with fail
  refine (ref3_Value _ _ _ _ _ FV2_8.out q2.fit (by omega)).mono ?_
  rintro e w9 ⟨⟨Gy, gy, dy, rfl, by_, Ny⟩, B⟩
  have HB9 := Lib.hid (HB8.out.trans (B.mono HB8.out.size))
  have FT_9 := Lib.hid (FT_8.out.below B (Nat.le_refl _))
  have FV1_9 := Lib.hid (FV1_8.out.below B (Nat.le_refl _))
  have FV2_9 := Lib.hid (FV2_8.out.below B (Nat.le_refl _))
  have FNx_9 := Lib.hid (FNx_8.out.below B (Nat.le_refl _))
  have FNy_9 := Lib.hid Ny
  clear B Ny HB8 FT_8 FV1_8 FV2_8 FNx_8
  go_wp2_with fail
  refine (ref3_AddZ _ _ _ _ _ _ _ _ 0 hz.out _ FNx_9.out FNy_9.out (by omega) (by omega)).mono ?_
  rintro e w10 ⟨⟨Gz, gz, dz, rfl, bz_, Nz⟩, B⟩
  have HB10 := Lib.hid (HB9.out.trans (B.mono HB9.out.size))
  have FT_10 := Lib.hid (FT_9.out.below B (Nat.le_refl _))
  have FV1_10 := Lib.hid (FV1_9.out.below B (Nat.le_refl _))
  have FV2_10 := Lib.hid (FV2_9.out.below B (Nat.le_refl _))
  have FNx_10 := Lib.hid (FNx_9.out.below B (Nat.le_refl _))
  have FNy_10 := Lib.hid (FNy_9.out.below B (Nat.le_refl _))
  clear B  HB9 FT_9 FV1_9 FV2_9 FNx_9 FNy_9
  clear Nz; rw [show sg 0 = 0 from rfl]
  go_wp2_with fail
  go_ret
  exact ⟨rfl, HB10.out⟩

set_option maxHeartbeats 4000000 in
theorem alt7_02 {w : World} (a0_0 a0_1 a0_2 a0_3 a0_4 a0_5 a0_6 a0_7 : Int) (w0_0 : (Lit.int .i64 a0_0).wf = true) (w0_1 : (Lit.int .i64 a0_1).wf = true) (w0_2 : (Lit.int .i64 a0_2).wf = true) (w0_3 : (Lit.int .i64 a0_3).wf = true) (w0_4 : (Lit.int .i64 a0_4).wf = true) (w0_5 : (Lit.int .i64 a0_5).wf = true) (w0_6 : (Lit.int .i64 a0_6).wf = true) (w0_7 : (Lit.int .i64 a0_7).wf = true) (a1 : Int) (w1 : (Lit.int .u8 a1).wf = true) (a2 : Int) (w2 : (Lit.int .u8 a2).wf = true) (hT : TabM w) (e1 : a1.tmod 4 = 0) (e2 : a2.tmod 4 = 2) :
    Calls Tryd.prog 11 #[.agg #[.int .i64 a0_0, .int .i64 a0_1, .int .i64 a0_2, .int .i64 a0_3, .int .i64 a0_4, .int .i64 a0_5, .int .i64 a0_6, .int .i64 a0_7], .int .u8 a1, .int .u8 a2] w fun e w' => e = .returned (.bool true) ∧ Below w.heap.size w w' := by
  have HB0 := Lib.hid (Below.refl w.heap.size w)
  have i0_0 := isI_of_wf w0_0
  have i0_1 := isI_of_wf w0_1
  have i0_2 := isI_of_wf w0_2
  have i0_3 := isI_of_wf w0_3
  have i0_4 := isI_of_wf w0_4
  have i0_5 := isI_of_wf w0_5
  have i0_6 := isI_of_wf w0_6
  have i0_7 := isI_of_wf w0_7
  have FT := Lib.hid hT; clear hT
  have hfd : ∀ (s : Int) (V : Option Addr) (k c : Nat) (w : World), (Instr.field 26 (.agg #[.int .i64 s, .slice V k c]) 0).run Tryd.prog w = .ok (.int .i64 s) w := fun _ _ _ _ _ => by kernel_rfl
  have hv1 : IntKind.u8.wrap 0 = 0 := (by decide)
  have hv2 : IntKind.u8.wrap 2 = 2 := (by decide)
  clear w1 w2
  have q1 := (show P4 a0_0 a0_1 a0_2 a0_3 a0_4 a0_5 a0_6 a0_7 from ⟨i0_0, i0_1, i0_2, i0_3, i0_4, i0_5, i0_6, i0_7⟩)
  have q2 := (show P4 a0_4 a0_5 a0_2 a0_3 a0_0 a0_1 a0_6 a0_7 from ⟨i0_4, i0_5, i0_2, i0_3, i0_0, i0_1, i0_6, i0_7⟩)
  have hz := Lib.hid (show circ a0_0 a0_1 a0_2 a0_3 a0_4 a0_5 a0_6 a0_7 + circ a0_4 a0_5 a0_2 a0_3 a0_0 a0_1 a0_6 a0_7 = 0 from by unfold circ nrm mnr; grind)
  go_enter Tryd.func11, Tryd.ntmps11
  go_wp2_with fail
  have B : Below w.heap.size w (w.alloc (.cells #[.int .i64 a0_0, .int .i64 a0_1, .int .i64 a0_2, .int .i64 a0_3, .int .i64 a0_4, .int .i64 a0_5, .int .i64 a0_6, .int .i64 a0_7] 48)) := (HB0.out.alloc HB0.out.size _)
  have C : Below w.heap.size w (w.alloc (.cells #[.int .i64 a0_0, .int .i64 a0_1, .int .i64 a0_2, .int .i64 a0_3, .int .i64 a0_4, .int .i64 a0_5, .int .i64 a0_6, .int .i64 a0_7] 48)) := ((Below.refl w.heap.size w).alloc (Nat.le_refl _) _)
  have X0 : Bx (w.alloc (.cells #[.int .i64 a0_0, .int .i64 a0_1, .int .i64 a0_2, .int .i64 a0_3, .int .i64 a0_4, .int .i64 a0_5, .int .i64 a0_6, .int .i64 a0_7] 48)) (w.heap.size) #[.int .i64 a0_0, .int .i64 a0_1, .int .i64 a0_2, .int .i64 a0_3, .int .i64 a0_4, .int .i64 a0_5, .int .i64 a0_6, .int .i64 a0_7] 48 := by simpa using (Bx.new w #[.int .i64 a0_0, .int .i64 a0_1, .int .i64 a0_2, .int .i64 a0_3, .int .i64 a0_4, .int .i64 a0_5, .int .i64 a0_6, .int .i64 a0_7] 48)
  have FT_1 := Lib.hid (FT.out.below C (Nat.le_refl _))
  have HB1 := Lib.hid B
  have FA_1 := Lib.hid X0
  clear B C X0 HB0 FT
  have HSZ := Lib.hid (show (w.alloc (.cells #[.int .i64 a0_0, .int .i64 a0_1, .int .i64 a0_2, .int .i64 a0_3, .int .i64 a0_4, .int .i64 a0_5, .int .i64 a0_6, .int .i64 a0_7] 48)).heap.size = w.heap.size + 1 from by simp)
  generalize (w.alloc (.cells #[.int .i64 a0_0, .int .i64 a0_1, .int .i64 a0_2, .int .i64 a0_3, .int .i64 a0_4, .int .i64 a0_5, .int .i64 a0_6, .int .i64 a0_7] 48)) = w1 at *
  have C2 := Lib.hid (show Below w1.heap.size w1 (w1.alloc (.cells #[.int .i64 a0_0, .int .i64 a0_1, .int .i64 a0_2, .int .i64 a0_3, .int .i64 a0_4, .int .i64 a0_5, .int .i64 a0_6, .int .i64 a0_7] 48)) from below_al below_rf)
  have M2 := Lib.hid (show Bx (w1.alloc (.cells #[.int .i64 a0_0, .int .i64 a0_1, .int .i64 a0_2, .int .i64 a0_3, .int .i64 a0_4, .int .i64 a0_5, .int .i64 a0_6, .int .i64 a0_7] 48)) (w.heap.size + 1) #[.int .i64 a0_0, .int .i64 a0_1, .int .i64 a0_2, .int .i64 a0_3, .int .i64 a0_4, .int .i64 a0_5, .int .i64 a0_6, .int .i64 a0_7] 48 from bx_new HSZ.out.symm)
  generalize (w1.alloc (.cells #[.int .i64 a0_0, .int .i64 a0_1, .int .i64 a0_2, .int .i64 a0_3, .int .i64 a0_4, .int .i64 a0_5, .int .i64 a0_6, .int .i64 a0_7] 48)) = w2 at *
  go_upto_region 2 with (fail)
  have MD := Lib.hid (show Bx w2.drew (w.heap.size + 1) #[.int .i64 a0_0, .int .i64 a0_1, .int .i64 a0_2, .int .i64 a0_3, .int .i64 a0_4, .int .i64 a0_5, .int .i64 a0_6, .int .i64 a0_7] 48 from bx_dr M2.out)
  refine wp_region_held_drew (S := fun _ => True) (by kernel_rfl) trivial (fun _ => ?_)
  refine wpAnyH_genM w1.heap.size (w.heap.size + 1) 48 #[.int .i64 a0_0, .int .i64 a0_1, .int .i64 a0_2, .int .i64 a0_3, .int .i64 a0_4, .int .i64 a0_5, .int .i64 a0_6, .int .i64 a0_7] [⟨13, 0, [.int .i64 a0_4, .int .i64 a0_5]⟩, ⟨15, 4, [.int .i64 a0_0, .int .i64 a0_1]⟩] [⟨0, 11, .int .u8 a1⟩, ⟨1, 12, .int .u8 0⟩, ⟨2, 13, .int .u8 a2⟩, ⟨3, 14, .int .u8 2⟩, ⟨4, 15, .int .u8 a2⟩, ⟨5, 16, .int .u8 2⟩, ⟨6, 17, .pointer (some ⟨w.heap.size, 4, none⟩)⟩, ⟨7, 18, .agg #[.int .i64 a0_4, .int .i64 a0_5]⟩, ⟨8, 19, .int .u8 a1⟩, ⟨9, 20, .int .u8 0⟩, ⟨10, 21, .pointer (some ⟨w.heap.size, 0, none⟩)⟩, ⟨11, 22, .agg #[.int .i64 a0_0, .int .i64 a0_1]⟩, ⟨12, 23, .pointer (some ⟨w.heap.size + 1, 0, none⟩)⟩, ⟨14, 24, .pointer (some ⟨w.heap.size + 1, 4, none⟩)⟩] (by kernel_rfl) (fun _ => trivial) (Nat.le_of_eq HSZ.out) MD.out ?_ ?_ ?_
  · refine ⟨?_, ?_, ?_, ?_, ?_, ?_, ?_, ?_, ?_, ?_, ?_, ?_, ?_, ?_, trivial⟩
    · intro a wz K hb ht hd hM hK
      have hbw := Lib.hid (C2.out.trans ((Below.refl w1.heap.size w2).drew.trans hb)); clear hb
      have HK := Lib.hid hK; clear hK
      all_goals (
      have hx1 := (ht 1 rfl).trans rfl
      have es1 : a.tmps.getD 1 undef = _ := getD_of hx1; clear hx1
      clear ht hd
      clear hM
      refine wpOp_step (by simp only [List.getElem?_toArray, List.getElem?_cons_succ, List.getElem?_cons_zero]; rfl) (fun K' hK' => ?_)
      have HK' := Lib.hid hK'; clear hK'
      go_simp
      exact HK'.out _ _ HK.out)
    · intro a wz K hb ht hd hM hK
      have hbw := Lib.hid (C2.out.trans ((Below.refl w1.heap.size w2).drew.trans hb)); clear hb
      have HK := Lib.hid hK; clear hK
      all_goals (
      have hx11 : a.tmps[11]? = some (.int .u8 a1) := hd 0 _ rfl (by kernel_rfl)
      have es11 : a.tmps.getD 11 undef = _ := getD_of hx11; clear hx11
      clear ht hd
      clear hM
      refine wpOp_step (by simp only [List.getElem?_toArray, List.getElem?_cons_succ, List.getElem?_cons_zero]; rfl) (fun K' hK' => ?_)
      have HK' := Lib.hid hK'; clear hK'
      go_simp
      exact HK'.out _ _ HK.out)
    · intro a wz K hb ht hd hM hK
      have hbw := Lib.hid (C2.out.trans ((Below.refl w1.heap.size w2).drew.trans hb)); clear hb
      have HK := Lib.hid hK; clear hK
      all_goals (
      have hx2 := (ht 2 rfl).trans rfl
      have es2 : a.tmps.getD 2 undef = _ := getD_of hx2; clear hx2
      clear ht hd
      clear hM
      refine wpOp_step (by simp only [List.getElem?_toArray, List.getElem?_cons_succ, List.getElem?_cons_zero]; rfl) (fun K' hK' => ?_)
      have HK' := Lib.hid hK'; clear hK'
      go_simp
      exact HK'.out _ _ HK.out)
    · intro a wz K hb ht hd hM hK
      have hbw := Lib.hid (C2.out.trans ((Below.refl w1.heap.size w2).drew.trans hb)); clear hb
      have HK := Lib.hid hK; clear hK
      all_goals (
      have hx13 : a.tmps[13]? = some (.int .u8 a2) := hd 2 _ rfl (by kernel_rfl)
      have es13 : a.tmps.getD 13 undef = _ := getD_of hx13; clear hx13
      clear ht hd
      clear hM
      refine wpOp_step (by simp only [List.getElem?_toArray, List.getElem?_cons_succ, List.getElem?_cons_zero]; rfl) (fun K' hK' => ?_)
      have HK' := Lib.hid hK'; clear hK'
      go_simp
      exact HK'.out _ _ HK.out)
    · intro a wz K hb ht hd hM hK
      have hbw := Lib.hid (C2.out.trans ((Below.refl w1.heap.size w2).drew.trans hb)); clear hb
      have HK := Lib.hid hK; clear hK
      all_goals (
      have hx2 := (ht 2 rfl).trans rfl
      have es2 : a.tmps.getD 2 undef = _ := getD_of hx2; clear hx2
      clear ht hd
      clear hM
      refine wpOp_step (by simp only [List.getElem?_toArray, List.getElem?_cons_succ, List.getElem?_cons_zero]; rfl) (fun K' hK' => ?_)
      have HK' := Lib.hid hK'; clear hK'
      go_simp
      exact HK'.out _ _ HK.out)
    · intro a wz K hb ht hd hM hK
      have hbw := Lib.hid (C2.out.trans ((Below.refl w1.heap.size w2).drew.trans hb)); clear hb
      have HK := Lib.hid hK; clear hK
      all_goals (
      have hx15 : a.tmps[15]? = some (.int .u8 a2) := hd 4 _ rfl (by kernel_rfl)
      have es15 : a.tmps.getD 15 undef = _ := getD_of hx15; clear hx15
      clear ht hd
      clear hM
      refine wpOp_step (by simp only [List.getElem?_toArray, List.getElem?_cons_succ, List.getElem?_cons_zero]; rfl) (fun K' hK' => ?_)
      have HK' := Lib.hid hK'; clear hK'
      go_simp
      exact HK'.out _ _ HK.out)
    · intro a wz K hb ht hd hM hK
      have hbw := Lib.hid (C2.out.trans ((Below.refl w1.heap.size w2).drew.trans hb)); clear hb
      have HK := Lib.hid hK; clear hK
      all_goals (
      have hx3 := (ht 3 rfl).trans rfl
      have es3 : a.tmps.getD 3 undef = _ := getD_of hx3; clear hx3
      have hx16 : a.tmps[16]? = some (.int .u8 2) := hd 5 _ rfl (by kernel_rfl)
      have es16 : a.tmps.getD 16 undef = _ := getD_of hx16; clear hx16
      clear ht hd
      clear hM
      refine wpOp_step (by simp only [List.getElem?_toArray, List.getElem?_cons_succ, List.getElem?_cons_zero]; rfl) (fun K' hK' => ?_)
      have HK' := Lib.hid hK'; clear hK'
      go_simp
      exact HK'.out _ _ HK.out)
    · intro a wz K hb ht hd hM hK
      have hbw := Lib.hid (C2.out.trans ((Below.refl w1.heap.size w2).drew.trans hb)); clear hb
      have HK := Lib.hid hK; clear hK
      all_goals (
      have hx17 : a.tmps[17]? = some (.pointer (some ⟨w.heap.size, 4, none⟩)) := hd 6 _ rfl (by kernel_rfl)
      have es17 : a.tmps.getD 17 undef = _ := getD_of hx17; clear hx17
      clear ht hd
      clear hM
      have zc0 := (FA_1.out.below hbw.out (Nat.le_refl _)).cell 4 (v := .int .i64 a0_4) rfl
      have zc1 := (FA_1.out.below hbw.out (Nat.le_refl _)).cell 5 (v := .int .i64 a0_5) rfl
      refine wpOp_step (by simp only [List.getElem?_toArray, List.getElem?_cons_succ, List.getElem?_cons_zero]; rfl) (fun K' hK' => ?_)
      have HK' := Lib.hid hK'; clear hK'
      go_simp
      exact HK'.out _ _ HK.out)
    · intro a wz K hb ht hd hM hK
      have hbw := Lib.hid (C2.out.trans ((Below.refl w1.heap.size w2).drew.trans hb)); clear hb
      have HK := Lib.hid hK; clear hK
      all_goals (
      have hx1 := (ht 1 rfl).trans rfl
      have es1 : a.tmps.getD 1 undef = _ := getD_of hx1; clear hx1
      clear ht hd
      clear hM
      refine wpOp_step (by simp only [List.getElem?_toArray, List.getElem?_cons_succ, List.getElem?_cons_zero]; rfl) (fun K' hK' => ?_)
      have HK' := Lib.hid hK'; clear hK'
      go_simp
      exact HK'.out _ _ HK.out)
    · intro a wz K hb ht hd hM hK
      have hbw := Lib.hid (C2.out.trans ((Below.refl w1.heap.size w2).drew.trans hb)); clear hb
      have HK := Lib.hid hK; clear hK
      all_goals (
      have hx19 : a.tmps[19]? = some (.int .u8 a1) := hd 8 _ rfl (by kernel_rfl)
      have es19 : a.tmps.getD 19 undef = _ := getD_of hx19; clear hx19
      clear ht hd
      clear hM
      refine wpOp_step (by simp only [List.getElem?_toArray, List.getElem?_cons_succ, List.getElem?_cons_zero]; rfl) (fun K' hK' => ?_)
      have HK' := Lib.hid hK'; clear hK'
      go_simp
      exact HK'.out _ _ HK.out)
    · intro a wz K hb ht hd hM hK
      have hbw := Lib.hid (C2.out.trans ((Below.refl w1.heap.size w2).drew.trans hb)); clear hb
      have HK := Lib.hid hK; clear hK
      all_goals (
      have hx3 := (ht 3 rfl).trans rfl
      have es3 : a.tmps.getD 3 undef = _ := getD_of hx3; clear hx3
      have hx20 : a.tmps[20]? = some (.int .u8 0) := hd 9 _ rfl (by kernel_rfl)
      have es20 : a.tmps.getD 20 undef = _ := getD_of hx20; clear hx20
      clear ht hd
      clear hM
      refine wpOp_step (by simp only [List.getElem?_toArray, List.getElem?_cons_succ, List.getElem?_cons_zero]; rfl) (fun K' hK' => ?_)
      have HK' := Lib.hid hK'; clear hK'
      go_simp
      exact HK'.out _ _ HK.out)
    · intro a wz K hb ht hd hM hK
      have hbw := Lib.hid (C2.out.trans ((Below.refl w1.heap.size w2).drew.trans hb)); clear hb
      have HK := Lib.hid hK; clear hK
      all_goals (
      have hx21 : a.tmps[21]? = some (.pointer (some ⟨w.heap.size, 0, none⟩)) := hd 10 _ rfl (by kernel_rfl)
      have es21 : a.tmps.getD 21 undef = _ := getD_of hx21; clear hx21
      clear ht hd
      clear hM
      have zc0 := (FA_1.out.below hbw.out (Nat.le_refl _)).cell 0 (v := .int .i64 a0_0) rfl
      have zc1 := (FA_1.out.below hbw.out (Nat.le_refl _)).cell 1 (v := .int .i64 a0_1) rfl
      refine wpOp_step (by simp only [List.getElem?_toArray, List.getElem?_cons_succ, List.getElem?_cons_zero]; rfl) (fun K' hK' => ?_)
      have HK' := Lib.hid hK'; clear hK'
      go_simp
      exact HK'.out _ _ HK.out)
    · intro a wz K hb ht hd hM hK
      have hbw := Lib.hid (C2.out.trans ((Below.refl w1.heap.size w2).drew.trans hb)); clear hb
      have HK := Lib.hid hK; clear hK
      all_goals (
      have hx7 := (ht 7 rfl).trans rfl
      have es7 : a.tmps.getD 7 undef = _ := getD_of hx7; clear hx7
      have hx12 : a.tmps[12]? = some (.int .u8 0) := hd 1 _ rfl (by kernel_rfl)
      have es12 : a.tmps.getD 12 undef = _ := getD_of hx12; clear hx12
      clear ht hd
      clear hM
      refine wpOp_step (by simp only [List.getElem?_toArray, List.getElem?_cons_succ, List.getElem?_cons_zero]; rfl) (fun K' hK' => ?_)
      have HK' := Lib.hid hK'; clear hK'
      go_simp
      exact HK'.out _ _ HK.out)
    · intro a wz K hb ht hd hM hK
      have hbw := Lib.hid (C2.out.trans ((Below.refl w1.heap.size w2).drew.trans hb)); clear hb
      have HK := Lib.hid hK; clear hK
      all_goals (
      have hx7 := (ht 7 rfl).trans rfl
      have es7 : a.tmps.getD 7 undef = _ := getD_of hx7; clear hx7
      have hx14 : a.tmps[14]? = some (.int .u8 2) := hd 3 _ rfl (by kernel_rfl)
      have es14 : a.tmps.getD 14 undef = _ := getD_of hx14; clear hx14
      clear ht hd
      clear hM
      refine wpOp_step (by simp only [List.getElem?_toArray, List.getElem?_cons_succ, List.getElem?_cons_zero]; rfl) (fun K' hK' => ?_)
      have HK' := Lib.hid hK'; clear hK'
      go_simp
      exact HK'.out _ _ HK.out)
  · refine ⟨?_, ?_, trivial⟩
    · intro a wz cs K hb ht hd hbx hsz hK
      have HK := Lib.hid hK; clear hK hb
      all_goals (
      have hx23 : a.tmps[23]? = some (.pointer (some ⟨w.heap.size + 1, 0, none⟩)) := hd 12 _ rfl (by kernel_rfl)
      have es23 : a.tmps.getD 23 undef = _ := getD_of hx23; clear hx23
      have hx18 : a.tmps[18]? = some (.agg #[.int .i64 a0_4, .int .i64 a0_5]) := hd 7 _ rfl (by kernel_rfl)
      have es18 : a.tmps.getD 18 undef = _ := getD_of hx18; clear hx18
      clear ht hd
      obtain ⟨zv0, zc0⟩ := hbx.some (i := 0 + 0) (by rw [hsz]; simp); have zf0 := hbx.free (0 + 0)
      obtain ⟨zv1, zc1⟩ := hbx.some (i := 0 + 1) (by rw [hsz]; simp); have zf1 := hbx.free (0 + 1)
      have zl := hbx.lt; clear hbx hsz
      refine wpOp_step (by simp only [List.getElem?_toArray, List.getElem?_cons_succ, List.getElem?_cons_zero]; rfl) (fun K' hK' => ?_)
      have HK' := Lib.hid hK'; clear hK'
      go_simp
      exact HK'.out _ _ HK.out)
    · intro a wz cs K hb ht hd hbx hsz hK
      have HK := Lib.hid hK; clear hK hb
      all_goals (
      have hx24 : a.tmps[24]? = some (.pointer (some ⟨w.heap.size + 1, 4, none⟩)) := hd 13 _ rfl (by kernel_rfl)
      have es24 : a.tmps.getD 24 undef = _ := getD_of hx24; clear hx24
      have hx22 : a.tmps[22]? = some (.agg #[.int .i64 a0_0, .int .i64 a0_1]) := hd 11 _ rfl (by kernel_rfl)
      have es22 : a.tmps.getD 22 undef = _ := getD_of hx22; clear hx22
      clear ht hd
      obtain ⟨zv0, zc0⟩ := hbx.some (i := 4 + 0) (by rw [hsz]; simp); have zf0 := hbx.free (4 + 0)
      obtain ⟨zv1, zc1⟩ := hbx.some (i := 4 + 1) (by rw [hsz]; simp); have zf1 := hbx.free (4 + 1)
      have zl := hbx.lt; clear hbx hsz
      refine wpOp_step (by simp only [List.getElem?_toArray, List.getElem?_cons_succ, List.getElem?_cons_zero]; rfl) (fun K' hK' => ?_)
      have HK' := Lib.hid hK'; clear hK'
      go_simp
      exact HK'.out _ _ HK.out)
  intro w3 hb hx
  have C3 := Lib.hid (C2.out.trans ((Below.refl w1.heap.size w2).drew.trans hb)); clear hb
  have M3 : Hid (Bx w3 (w.heap.size + 1) #[.int .i64 a0_4, .int .i64 a0_5, .int .i64 a0_2, .int .i64 a0_3, .int .i64 a0_0, .int .i64 a0_1, .int .i64 a0_6, .int .i64 a0_7] 48) := Lib.hid hx; clear hx M2 MD C2
  simp only [List.foldl_cons, List.foldl_nil, Act.put, List.setIfInBounds_toArray, List.set_cons_zero, List.set_cons_succ]
  have FT_4 := Lib.hid (FT_1.out.below C3.out (Nat.le_refl _))
  have FA_4 := Lib.hid (FA_1.out.below C3.out (Nat.le_refl _))
  have HB4 := Lib.hid (HB1.out.trans (C3.out.mono HB1.out.size))
  have FM_4 := M3
  clear HB1 FT_1 FA_1 C3 M3
  go_wp2_with fail
  have RB4 := Lib.hid (below_drew0 w3)
  have QS4 := Lib.hid (show w3.cell? ⟨w.heap.size, 0, none⟩ = some (.int .i64 a0_0) ∧ w3.cell? ⟨w.heap.size, 1, none⟩ = some (.int .i64 a0_1) ∧ w3.cell? ⟨w.heap.size, 2, none⟩ = some (.int .i64 a0_2) ∧ w3.cell? ⟨w.heap.size, 3, none⟩ = some (.int .i64 a0_3) ∧ w3.cell? ⟨w.heap.size, 4, none⟩ = some (.int .i64 a0_4) ∧ w3.cell? ⟨w.heap.size, 5, none⟩ = some (.int .i64 a0_5) ∧ w3.cell? ⟨w.heap.size, 6, none⟩ = some (.int .i64 a0_6) ∧ w3.cell? ⟨w.heap.size, 7, none⟩ = some (.int .i64 a0_7) ∧ w3.cell? ⟨w.heap.size + 1, 0, none⟩ = some (.int .i64 a0_4) ∧ w3.cell? ⟨w.heap.size + 1, 1, none⟩ = some (.int .i64 a0_5) ∧ w3.cell? ⟨w.heap.size + 1, 2, none⟩ = some (.int .i64 a0_2) ∧ w3.cell? ⟨w.heap.size + 1, 3, none⟩ = some (.int .i64 a0_3) ∧ w3.cell? ⟨w.heap.size + 1, 4, none⟩ = some (.int .i64 a0_0) ∧ w3.cell? ⟨w.heap.size + 1, 5, none⟩ = some (.int .i64 a0_1) ∧ w3.cell? ⟨w.heap.size + 1, 6, none⟩ = some (.int .i64 a0_6) ∧ w3.cell? ⟨w.heap.size + 1, 7, none⟩ = some (.int .i64 a0_7) from ⟨FA_4.out.cell 0 (v := .int .i64 a0_0) rfl, FA_4.out.cell 1 (v := .int .i64 a0_1) rfl, FA_4.out.cell 2 (v := .int .i64 a0_2) rfl, FA_4.out.cell 3 (v := .int .i64 a0_3) rfl, FA_4.out.cell 4 (v := .int .i64 a0_4) rfl, FA_4.out.cell 5 (v := .int .i64 a0_5) rfl, FA_4.out.cell 6 (v := .int .i64 a0_6) rfl, FA_4.out.cell 7 (v := .int .i64 a0_7) rfl, FM_4.out.cell 0 (v := .int .i64 a0_4) rfl, FM_4.out.cell 1 (v := .int .i64 a0_5) rfl, FM_4.out.cell 2 (v := .int .i64 a0_2) rfl, FM_4.out.cell 3 (v := .int .i64 a0_3) rfl, FM_4.out.cell 4 (v := .int .i64 a0_0) rfl, FM_4.out.cell 5 (v := .int .i64 a0_1) rfl, FM_4.out.cell 6 (v := .int .i64 a0_6) rfl, FM_4.out.cell 7 (v := .int .i64 a0_7) rfl⟩)
  have QF4 := Lib.hid (show ∀ w', Below w3.heap.size w3 w' → w'.cell? ⟨w.heap.size, 0, none⟩ = some (.int .i64 a0_0) ∧ w'.cell? ⟨w.heap.size, 1, none⟩ = some (.int .i64 a0_1) ∧ w'.cell? ⟨w.heap.size, 2, none⟩ = some (.int .i64 a0_2) ∧ w'.cell? ⟨w.heap.size, 3, none⟩ = some (.int .i64 a0_3) ∧ w'.cell? ⟨w.heap.size, 4, none⟩ = some (.int .i64 a0_4) ∧ w'.cell? ⟨w.heap.size, 5, none⟩ = some (.int .i64 a0_5) ∧ w'.cell? ⟨w.heap.size, 6, none⟩ = some (.int .i64 a0_6) ∧ w'.cell? ⟨w.heap.size, 7, none⟩ = some (.int .i64 a0_7) ∧ w'.cell? ⟨w.heap.size + 1, 0, none⟩ = some (.int .i64 a0_4) ∧ w'.cell? ⟨w.heap.size + 1, 1, none⟩ = some (.int .i64 a0_5) ∧ w'.cell? ⟨w.heap.size + 1, 2, none⟩ = some (.int .i64 a0_2) ∧ w'.cell? ⟨w.heap.size + 1, 3, none⟩ = some (.int .i64 a0_3) ∧ w'.cell? ⟨w.heap.size + 1, 4, none⟩ = some (.int .i64 a0_0) ∧ w'.cell? ⟨w.heap.size + 1, 5, none⟩ = some (.int .i64 a0_1) ∧ w'.cell? ⟨w.heap.size + 1, 6, none⟩ = some (.int .i64 a0_6) ∧ w'.cell? ⟨w.heap.size + 1, 7, none⟩ = some (.int .i64 a0_7) from fun w' hb => ⟨(FA_4.out.below hb (Nat.le_refl _)).cell 0 (v := .int .i64 a0_0) rfl, (FA_4.out.below hb (Nat.le_refl _)).cell 1 (v := .int .i64 a0_1) rfl, (FA_4.out.below hb (Nat.le_refl _)).cell 2 (v := .int .i64 a0_2) rfl, (FA_4.out.below hb (Nat.le_refl _)).cell 3 (v := .int .i64 a0_3) rfl, (FA_4.out.below hb (Nat.le_refl _)).cell 4 (v := .int .i64 a0_4) rfl, (FA_4.out.below hb (Nat.le_refl _)).cell 5 (v := .int .i64 a0_5) rfl, (FA_4.out.below hb (Nat.le_refl _)).cell 6 (v := .int .i64 a0_6) rfl, (FA_4.out.below hb (Nat.le_refl _)).cell 7 (v := .int .i64 a0_7) rfl, (FM_4.out.below hb (Nat.le_refl _)).cell 0 (v := .int .i64 a0_4) rfl, (FM_4.out.below hb (Nat.le_refl _)).cell 1 (v := .int .i64 a0_5) rfl, (FM_4.out.below hb (Nat.le_refl _)).cell 2 (v := .int .i64 a0_2) rfl, (FM_4.out.below hb (Nat.le_refl _)).cell 3 (v := .int .i64 a0_3) rfl, (FM_4.out.below hb (Nat.le_refl _)).cell 4 (v := .int .i64 a0_0) rfl, (FM_4.out.below hb (Nat.le_refl _)).cell 5 (v := .int .i64 a0_1) rfl, (FM_4.out.below hb (Nat.le_refl _)).cell 6 (v := .int .i64 a0_6) rfl, (FM_4.out.below hb (Nat.le_refl _)).cell 7 (v := .int .i64 a0_7) rfl⟩)
  go_region_held3 (fun w' => w'.cell? ⟨w.heap.size, 0, none⟩ = some (.int .i64 a0_0) ∧ w'.cell? ⟨w.heap.size, 1, none⟩ = some (.int .i64 a0_1) ∧ w'.cell? ⟨w.heap.size, 2, none⟩ = some (.int .i64 a0_2) ∧ w'.cell? ⟨w.heap.size, 3, none⟩ = some (.int .i64 a0_3) ∧ w'.cell? ⟨w.heap.size, 4, none⟩ = some (.int .i64 a0_4) ∧ w'.cell? ⟨w.heap.size, 5, none⟩ = some (.int .i64 a0_5) ∧ w'.cell? ⟨w.heap.size, 6, none⟩ = some (.int .i64 a0_6) ∧ w'.cell? ⟨w.heap.size, 7, none⟩ = some (.int .i64 a0_7) ∧ w'.cell? ⟨w.heap.size + 1, 0, none⟩ = some (.int .i64 a0_4) ∧ w'.cell? ⟨w.heap.size + 1, 1, none⟩ = some (.int .i64 a0_5) ∧ w'.cell? ⟨w.heap.size + 1, 2, none⟩ = some (.int .i64 a0_2) ∧ w'.cell? ⟨w.heap.size + 1, 3, none⟩ = some (.int .i64 a0_3) ∧ w'.cell? ⟨w.heap.size + 1, 4, none⟩ = some (.int .i64 a0_0) ∧ w'.cell? ⟨w.heap.size + 1, 5, none⟩ = some (.int .i64 a0_1) ∧ w'.cell? ⟨w.heap.size + 1, 6, none⟩ = some (.int .i64 a0_6) ∧ w'.cell? ⟨w.heap.size + 1, 7, none⟩ = some (.int .i64 a0_7)) (first | with_reducible exact QF4.out _ RB6.out | with_reducible exact QF4.out _ RB5.out | with_reducible exact QS4.out | with_reducible exact QF4.out _ RB4.out) (first
      | (go_at_call 31; have := RB5; clear this; refine (circle_Value a0_4 a0_5 a0_2 a0_3 a0_0 a0_1 a0_6 a0_7 q2 _).mono ?_; rintro e w6 ⟨⟨U2, u2, rfl, S2⟩, B⟩; have RB6 := Lib.hid (RB5.out.trans (B.mono RB5.out.size)); have RV1_6 := Lib.hid (RV1_5.out.below B (Nat.le_refl _)); have RV2_6 := Lib.hid S2; clear B S2)
      | (go_at_call 31; have := RB4; clear this; refine (circle_Value a0_0 a0_1 a0_2 a0_3 a0_4 a0_5 a0_6 a0_7 q1 _).mono ?_; rintro e w5 ⟨⟨U1, u1, rfl, S1⟩, B⟩; have RB5 := Lib.hid (RB4.out.trans (B.mono RB4.out.size)); have RV1_5 := Lib.hid S1; clear B S1))
  have FT_6 := Lib.hid (FT_4.out.below RB6.out (Nat.le_refl _))
  have FA_6 := Lib.hid (FA_4.out.below RB6.out (Nat.le_refl _))
  have FM_6 := Lib.hid (FM_4.out.below RB6.out (Nat.le_refl _))
  have HB6 := Lib.hid (HB4.out.trans (RB6.out.mono HB4.out.size))
  clear HB4 FT_4 FA_4 FM_4
  go_wp2_with fail
  refine (alive7 _ FT_6.out).mono ?_
  rintro e w7 ⟨rfl, B⟩
  have HB7 := Lib.hid (HB6.out.trans (B.mono HB6.out.size))
  have FT_7 := Lib.hid (FT_6.out.below B (Nat.le_refl _))
  have FV1_7 := Lib.hid (RV1_6.out.below B (Nat.le_refl _))
  have FV2_7 := Lib.hid (RV2_6.out.below B (Nat.le_refl _))
  clear B  HB6 FT_6 RV1_6 RV2_6
  go_wp2_with fail
  refine (ref3_Value _ _ _ _ _ FV1_7.out q1.fit (by omega)).mono ?_
  rintro e w8 ⟨⟨Gx, gx, dx, rfl, bx_, Nx⟩, B⟩
  have HB8 := Lib.hid (HB7.out.trans (B.mono HB7.out.size))
  have FT_8 := Lib.hid (FT_7.out.below B (Nat.le_refl _))
  have FV1_8 := Lib.hid (FV1_7.out.below B (Nat.le_refl _))
  have FV2_8 := Lib.hid (FV2_7.out.below B (Nat.le_refl _))
  have FNx_8 := Lib.hid Nx
  clear B Nx HB7 FT_7 FV1_7 FV2_7
  go_wp2_with fail
  refine (ref3_Value _ _ _ _ _ FV2_8.out q2.fit (by omega)).mono ?_
  rintro e w9 ⟨⟨Gy, gy, dy, rfl, by_, Ny⟩, B⟩
  have HB9 := Lib.hid (HB8.out.trans (B.mono HB8.out.size))
  have FT_9 := Lib.hid (FT_8.out.below B (Nat.le_refl _))
  have FV1_9 := Lib.hid (FV1_8.out.below B (Nat.le_refl _))
  have FV2_9 := Lib.hid (FV2_8.out.below B (Nat.le_refl _))
  have FNx_9 := Lib.hid (FNx_8.out.below B (Nat.le_refl _))
  have FNy_9 := Lib.hid Ny
  clear B Ny HB8 FT_8 FV1_8 FV2_8 FNx_8
  go_wp2_with fail
  refine (ref3_AddZ _ _ _ _ _ _ _ _ 0 hz.out _ FNx_9.out FNy_9.out (by omega) (by omega)).mono ?_
  rintro e w10 ⟨⟨Gz, gz, dz, rfl, bz_, Nz⟩, B⟩
  have HB10 := Lib.hid (HB9.out.trans (B.mono HB9.out.size))
  have FT_10 := Lib.hid (FT_9.out.below B (Nat.le_refl _))
  have FV1_10 := Lib.hid (FV1_9.out.below B (Nat.le_refl _))
  have FV2_10 := Lib.hid (FV2_9.out.below B (Nat.le_refl _))
  have FNx_10 := Lib.hid (FNx_9.out.below B (Nat.le_refl _))
  have FNy_10 := Lib.hid (FNy_9.out.below B (Nat.le_refl _))
  clear B  HB9 FT_9 FV1_9 FV2_9 FNx_9 FNy_9
  clear Nz; rw [show sg 0 = 0 from rfl]
  go_wp2_with fail
  go_ret
  exact ⟨rfl, HB10.out⟩

set_option maxHeartbeats 4000000 in
theorem alt7_03 {w : World} (a0_0 a0_1 a0_2 a0_3 a0_4 a0_5 a0_6 a0_7 : Int) (w0_0 : (Lit.int .i64 a0_0).wf = true) (w0_1 : (Lit.int .i64 a0_1).wf = true) (w0_2 : (Lit.int .i64 a0_2).wf = true) (w0_3 : (Lit.int .i64 a0_3).wf = true) (w0_4 : (Lit.int .i64 a0_4).wf = true) (w0_5 : (Lit.int .i64 a0_5).wf = true) (w0_6 : (Lit.int .i64 a0_6).wf = true) (w0_7 : (Lit.int .i64 a0_7).wf = true) (a1 : Int) (w1 : (Lit.int .u8 a1).wf = true) (a2 : Int) (w2 : (Lit.int .u8 a2).wf = true) (hT : TabM w) (e1 : a1.tmod 4 = 0) (e2 : a2.tmod 4 = 3) :
    Calls Tryd.prog 11 #[.agg #[.int .i64 a0_0, .int .i64 a0_1, .int .i64 a0_2, .int .i64 a0_3, .int .i64 a0_4, .int .i64 a0_5, .int .i64 a0_6, .int .i64 a0_7], .int .u8 a1, .int .u8 a2] w fun e w' => e = .returned (.bool true) ∧ Below w.heap.size w w' := by
  have HB0 := Lib.hid (Below.refl w.heap.size w)
  have i0_0 := isI_of_wf w0_0
  have i0_1 := isI_of_wf w0_1
  have i0_2 := isI_of_wf w0_2
  have i0_3 := isI_of_wf w0_3
  have i0_4 := isI_of_wf w0_4
  have i0_5 := isI_of_wf w0_5
  have i0_6 := isI_of_wf w0_6
  have i0_7 := isI_of_wf w0_7
  have FT := Lib.hid hT; clear hT
  have hfd : ∀ (s : Int) (V : Option Addr) (k c : Nat) (w : World), (Instr.field 26 (.agg #[.int .i64 s, .slice V k c]) 0).run Tryd.prog w = .ok (.int .i64 s) w := fun _ _ _ _ _ => by kernel_rfl
  have hv1 : IntKind.u8.wrap 0 = 0 := (by decide)
  have hv2 : IntKind.u8.wrap 3 = 3 := (by decide)
  clear w1 w2
  have q1 := (show P4 a0_0 a0_1 a0_2 a0_3 a0_4 a0_5 a0_6 a0_7 from ⟨i0_0, i0_1, i0_2, i0_3, i0_4, i0_5, i0_6, i0_7⟩)
  have q2 := (show P4 a0_6 a0_7 a0_2 a0_3 a0_4 a0_5 a0_0 a0_1 from ⟨i0_6, i0_7, i0_2, i0_3, i0_4, i0_5, i0_0, i0_1⟩)
  have hz := Lib.hid (show circ a0_0 a0_1 a0_2 a0_3 a0_4 a0_5 a0_6 a0_7 + circ a0_6 a0_7 a0_2 a0_3 a0_4 a0_5 a0_0 a0_1 = 0 from by unfold circ nrm mnr; grind)
  go_enter Tryd.func11, Tryd.ntmps11
  go_wp2_with fail
  have B : Below w.heap.size w (w.alloc (.cells #[.int .i64 a0_0, .int .i64 a0_1, .int .i64 a0_2, .int .i64 a0_3, .int .i64 a0_4, .int .i64 a0_5, .int .i64 a0_6, .int .i64 a0_7] 48)) := (HB0.out.alloc HB0.out.size _)
  have C : Below w.heap.size w (w.alloc (.cells #[.int .i64 a0_0, .int .i64 a0_1, .int .i64 a0_2, .int .i64 a0_3, .int .i64 a0_4, .int .i64 a0_5, .int .i64 a0_6, .int .i64 a0_7] 48)) := ((Below.refl w.heap.size w).alloc (Nat.le_refl _) _)
  have X0 : Bx (w.alloc (.cells #[.int .i64 a0_0, .int .i64 a0_1, .int .i64 a0_2, .int .i64 a0_3, .int .i64 a0_4, .int .i64 a0_5, .int .i64 a0_6, .int .i64 a0_7] 48)) (w.heap.size) #[.int .i64 a0_0, .int .i64 a0_1, .int .i64 a0_2, .int .i64 a0_3, .int .i64 a0_4, .int .i64 a0_5, .int .i64 a0_6, .int .i64 a0_7] 48 := by simpa using (Bx.new w #[.int .i64 a0_0, .int .i64 a0_1, .int .i64 a0_2, .int .i64 a0_3, .int .i64 a0_4, .int .i64 a0_5, .int .i64 a0_6, .int .i64 a0_7] 48)
  have FT_1 := Lib.hid (FT.out.below C (Nat.le_refl _))
  have HB1 := Lib.hid B
  have FA_1 := Lib.hid X0
  clear B C X0 HB0 FT
  have HSZ := Lib.hid (show (w.alloc (.cells #[.int .i64 a0_0, .int .i64 a0_1, .int .i64 a0_2, .int .i64 a0_3, .int .i64 a0_4, .int .i64 a0_5, .int .i64 a0_6, .int .i64 a0_7] 48)).heap.size = w.heap.size + 1 from by simp)
  generalize (w.alloc (.cells #[.int .i64 a0_0, .int .i64 a0_1, .int .i64 a0_2, .int .i64 a0_3, .int .i64 a0_4, .int .i64 a0_5, .int .i64 a0_6, .int .i64 a0_7] 48)) = w1 at *
  have C2 := Lib.hid (show Below w1.heap.size w1 (w1.alloc (.cells #[.int .i64 a0_0, .int .i64 a0_1, .int .i64 a0_2, .int .i64 a0_3, .int .i64 a0_4, .int .i64 a0_5, .int .i64 a0_6, .int .i64 a0_7] 48)) from below_al below_rf)
  have M2 := Lib.hid (show Bx (w1.alloc (.cells #[.int .i64 a0_0, .int .i64 a0_1, .int .i64 a0_2, .int .i64 a0_3, .int .i64 a0_4, .int .i64 a0_5, .int .i64 a0_6, .int .i64 a0_7] 48)) (w.heap.size + 1) #[.int .i64 a0_0, .int .i64 a0_1, .int .i64 a0_2, .int .i64 a0_3, .int .i64 a0_4, .int .i64 a0_5, .int .i64 a0_6, .int .i64 a0_7] 48 from bx_new HSZ.out.symm)
  generalize (w1.alloc (.cells #[.int .i64 a0_0, .int .i64 a0_1, .int .i64 a0_2, .int .i64 a0_3, .int .i64 a0_4, .int .i64 a0_5, .int .i64 a0_6, .int .i64 a0_7] 48)) = w2 at *
  go_upto_region 2 with (fail)
  have MD := Lib.hid (show Bx w2.drew (w.heap.size + 1) #[.int .i64 a0_0, .int .i64 a0_1, .int .i64 a0_2, .int .i64 a0_3, .int .i64 a0_4, .int .i64 a0_5, .int .i64 a0_6, .int .i64 a0_7] 48 from bx_dr M2.out)
  refine wp_region_held_drew (S := fun _ => True) (by kernel_rfl) trivial (fun _ => ?_)
  refine wpAnyH_genM w1.heap.size (w.heap.size + 1) 48 #[.int .i64 a0_0, .int .i64 a0_1, .int .i64 a0_2, .int .i64 a0_3, .int .i64 a0_4, .int .i64 a0_5, .int .i64 a0_6, .int .i64 a0_7] [⟨13, 0, [.int .i64 a0_6, .int .i64 a0_7]⟩, ⟨15, 6, [.int .i64 a0_0, .int .i64 a0_1]⟩] [⟨0, 11, .int .u8 a1⟩, ⟨1, 12, .int .u8 0⟩, ⟨2, 13, .int .u8 a2⟩, ⟨3, 14, .int .u8 3⟩, ⟨4, 15, .int .u8 a2⟩, ⟨5, 16, .int .u8 3⟩, ⟨6, 17, .pointer (some ⟨w.heap.size, 6, none⟩)⟩, ⟨7, 18, .agg #[.int .i64 a0_6, .int .i64 a0_7]⟩, ⟨8, 19, .int .u8 a1⟩, ⟨9, 20, .int .u8 0⟩, ⟨10, 21, .pointer (some ⟨w.heap.size, 0, none⟩)⟩, ⟨11, 22, .agg #[.int .i64 a0_0, .int .i64 a0_1]⟩, ⟨12, 23, .pointer (some ⟨w.heap.size + 1, 0, none⟩)⟩, ⟨14, 24, .pointer (some ⟨w.heap.size + 1, 6, none⟩)⟩] (by kernel_rfl) (fun _ => trivial) (Nat.le_of_eq HSZ.out) MD.out ?_ ?_ ?_
  · refine ⟨?_, ?_, ?_, ?_, ?_, ?_, ?_, ?_, ?_, ?_, ?_, ?_, ?_, ?_, trivial⟩
    · intro a wz K hb ht hd hM hK
      have hbw := Lib.hid (C2.out.trans ((Below.refl w1.heap.size w2).drew.trans hb)); clear hb
      have HK := Lib.hid hK; clear hK
      all_goals (
      have hx1 := (ht 1 rfl).trans rfl
      have es1 : a.tmps.getD 1 undef = _ := getD_of hx1; clear hx1
      clear ht hd
      clear hM
      refine wpOp_step (by simp only [List.getElem?_toArray, List.getElem?_cons_succ, List.getElem?_cons_zero]; rfl) (fun K' hK' => ?_)
      have HK' := Lib.hid hK'; clear hK'
      go_simp
      exact HK'.out _ _ HK.out)
    · intro a wz K hb ht hd hM hK
      have hbw := Lib.hid (C2.out.trans ((Below.refl w1.heap.size w2).drew.trans hb)); clear hb
      have HK := Lib.hid hK; clear hK
      all_goals (
      have hx11 : a.tmps[11]? = some (.int .u8 a1) := hd 0 _ rfl (by kernel_rfl)
      have es11 : a.tmps.getD 11 undef = _ := getD_of hx11; clear hx11
      clear ht hd
      clear hM
      refine wpOp_step (by simp only [List.getElem?_toArray, List.getElem?_cons_succ, List.getElem?_cons_zero]; rfl) (fun K' hK' => ?_)
      have HK' := Lib.hid hK'; clear hK'
      go_simp
      exact HK'.out _ _ HK.out)
    · intro a wz K hb ht hd hM hK
      have hbw := Lib.hid (C2.out.trans ((Below.refl w1.heap.size w2).drew.trans hb)); clear hb
      have HK := Lib.hid hK; clear hK
      all_goals (
      have hx2 := (ht 2 rfl).trans rfl
      have es2 : a.tmps.getD 2 undef = _ := getD_of hx2; clear hx2
      clear ht hd
      clear hM
      refine wpOp_step (by simp only [List.getElem?_toArray, List.getElem?_cons_succ, List.getElem?_cons_zero]; rfl) (fun K' hK' => ?_)
      have HK' := Lib.hid hK'; clear hK'
      go_simp
      exact HK'.out _ _ HK.out)
    · intro a wz K hb ht hd hM hK
      have hbw := Lib.hid (C2.out.trans ((Below.refl w1.heap.size w2).drew.trans hb)); clear hb
      have HK := Lib.hid hK; clear hK
      all_goals (
      have hx13 : a.tmps[13]? = some (.int .u8 a2) := hd 2 _ rfl (by kernel_rfl)
      have es13 : a.tmps.getD 13 undef = _ := getD_of hx13; clear hx13
      clear ht hd
      clear hM
      refine wpOp_step (by simp only [List.getElem?_toArray, List.getElem?_cons_succ, List.getElem?_cons_zero]; rfl) (fun K' hK' => ?_)
      have HK' := Lib.hid hK'; clear hK'
      go_simp
      exact HK'.out _ _ HK.out)
    · intro a wz K hb ht hd hM hK
      have hbw := Lib.hid (C2.out.trans ((Below.refl w1.heap.size w2).drew.trans hb)); clear hb
      have HK := Lib.hid hK; clear hK
      all_goals (
      have hx2 := (ht 2 rfl).trans rfl
      have es2 : a.tmps.getD 2 undef = _ := getD_of hx2; clear hx2
      clear ht hd
      clear hM
      refine wpOp_step (by simp only [List.getElem?_toArray, List.getElem?_cons_succ, List.getElem?_cons_zero]; rfl) (fun K' hK' => ?_)
      have HK' := Lib.hid hK'; clear hK'
      go_simp
      exact HK'.out _ _ HK.out)
    · intro a wz K hb ht hd hM hK
      have hbw := Lib.hid (C2.out.trans ((Below.refl w1.heap.size w2).drew.trans hb)); clear hb
      have HK := Lib.hid hK; clear hK
      all_goals (
      have hx15 : a.tmps[15]? = some (.int .u8 a2) := hd 4 _ rfl (by kernel_rfl)
      have es15 : a.tmps.getD 15 undef = _ := getD_of hx15; clear hx15
      clear ht hd
      clear hM
      refine wpOp_step (by simp only [List.getElem?_toArray, List.getElem?_cons_succ, List.getElem?_cons_zero]; rfl) (fun K' hK' => ?_)
      have HK' := Lib.hid hK'; clear hK'
      go_simp
      exact HK'.out _ _ HK.out)
    · intro a wz K hb ht hd hM hK
      have hbw := Lib.hid (C2.out.trans ((Below.refl w1.heap.size w2).drew.trans hb)); clear hb
      have HK := Lib.hid hK; clear hK
      all_goals (
      have hx3 := (ht 3 rfl).trans rfl
      have es3 : a.tmps.getD 3 undef = _ := getD_of hx3; clear hx3
      have hx16 : a.tmps[16]? = some (.int .u8 3) := hd 5 _ rfl (by kernel_rfl)
      have es16 : a.tmps.getD 16 undef = _ := getD_of hx16; clear hx16
      clear ht hd
      clear hM
      refine wpOp_step (by simp only [List.getElem?_toArray, List.getElem?_cons_succ, List.getElem?_cons_zero]; rfl) (fun K' hK' => ?_)
      have HK' := Lib.hid hK'; clear hK'
      go_simp
      exact HK'.out _ _ HK.out)
    · intro a wz K hb ht hd hM hK
      have hbw := Lib.hid (C2.out.trans ((Below.refl w1.heap.size w2).drew.trans hb)); clear hb
      have HK := Lib.hid hK; clear hK
      all_goals (
      have hx17 : a.tmps[17]? = some (.pointer (some ⟨w.heap.size, 6, none⟩)) := hd 6 _ rfl (by kernel_rfl)
      have es17 : a.tmps.getD 17 undef = _ := getD_of hx17; clear hx17
      clear ht hd
      clear hM
      have zc0 := (FA_1.out.below hbw.out (Nat.le_refl _)).cell 6 (v := .int .i64 a0_6) rfl
      have zc1 := (FA_1.out.below hbw.out (Nat.le_refl _)).cell 7 (v := .int .i64 a0_7) rfl
      refine wpOp_step (by simp only [List.getElem?_toArray, List.getElem?_cons_succ, List.getElem?_cons_zero]; rfl) (fun K' hK' => ?_)
      have HK' := Lib.hid hK'; clear hK'
      go_simp
      exact HK'.out _ _ HK.out)
    · intro a wz K hb ht hd hM hK
      have hbw := Lib.hid (C2.out.trans ((Below.refl w1.heap.size w2).drew.trans hb)); clear hb
      have HK := Lib.hid hK; clear hK
      all_goals (
      have hx1 := (ht 1 rfl).trans rfl
      have es1 : a.tmps.getD 1 undef = _ := getD_of hx1; clear hx1
      clear ht hd
      clear hM
      refine wpOp_step (by simp only [List.getElem?_toArray, List.getElem?_cons_succ, List.getElem?_cons_zero]; rfl) (fun K' hK' => ?_)
      have HK' := Lib.hid hK'; clear hK'
      go_simp
      exact HK'.out _ _ HK.out)
    · intro a wz K hb ht hd hM hK
      have hbw := Lib.hid (C2.out.trans ((Below.refl w1.heap.size w2).drew.trans hb)); clear hb
      have HK := Lib.hid hK; clear hK
      all_goals (
      have hx19 : a.tmps[19]? = some (.int .u8 a1) := hd 8 _ rfl (by kernel_rfl)
      have es19 : a.tmps.getD 19 undef = _ := getD_of hx19; clear hx19
      clear ht hd
      clear hM
      refine wpOp_step (by simp only [List.getElem?_toArray, List.getElem?_cons_succ, List.getElem?_cons_zero]; rfl) (fun K' hK' => ?_)
      have HK' := Lib.hid hK'; clear hK'
      go_simp
      exact HK'.out _ _ HK.out)
    · intro a wz K hb ht hd hM hK
      have hbw := Lib.hid (C2.out.trans ((Below.refl w1.heap.size w2).drew.trans hb)); clear hb
      have HK := Lib.hid hK; clear hK
      all_goals (
      have hx3 := (ht 3 rfl).trans rfl
      have es3 : a.tmps.getD 3 undef = _ := getD_of hx3; clear hx3
      have hx20 : a.tmps[20]? = some (.int .u8 0) := hd 9 _ rfl (by kernel_rfl)
      have es20 : a.tmps.getD 20 undef = _ := getD_of hx20; clear hx20
      clear ht hd
      clear hM
      refine wpOp_step (by simp only [List.getElem?_toArray, List.getElem?_cons_succ, List.getElem?_cons_zero]; rfl) (fun K' hK' => ?_)
      have HK' := Lib.hid hK'; clear hK'
      go_simp
      exact HK'.out _ _ HK.out)
    · intro a wz K hb ht hd hM hK
      have hbw := Lib.hid (C2.out.trans ((Below.refl w1.heap.size w2).drew.trans hb)); clear hb
      have HK := Lib.hid hK; clear hK
      all_goals (
      have hx21 : a.tmps[21]? = some (.pointer (some ⟨w.heap.size, 0, none⟩)) := hd 10 _ rfl (by kernel_rfl)
      have es21 : a.tmps.getD 21 undef = _ := getD_of hx21; clear hx21
      clear ht hd
      clear hM
      have zc0 := (FA_1.out.below hbw.out (Nat.le_refl _)).cell 0 (v := .int .i64 a0_0) rfl
      have zc1 := (FA_1.out.below hbw.out (Nat.le_refl _)).cell 1 (v := .int .i64 a0_1) rfl
      refine wpOp_step (by simp only [List.getElem?_toArray, List.getElem?_cons_succ, List.getElem?_cons_zero]; rfl) (fun K' hK' => ?_)
      have HK' := Lib.hid hK'; clear hK'
      go_simp
      exact HK'.out _ _ HK.out)
    · intro a wz K hb ht hd hM hK
      have hbw := Lib.hid (C2.out.trans ((Below.refl w1.heap.size w2).drew.trans hb)); clear hb
      have HK := Lib.hid hK; clear hK
      all_goals (
      have hx7 := (ht 7 rfl).trans rfl
      have es7 : a.tmps.getD 7 undef = _ := getD_of hx7; clear hx7
      have hx12 : a.tmps[12]? = some (.int .u8 0) := hd 1 _ rfl (by kernel_rfl)
      have es12 : a.tmps.getD 12 undef = _ := getD_of hx12; clear hx12
      clear ht hd
      clear hM
      refine wpOp_step (by simp only [List.getElem?_toArray, List.getElem?_cons_succ, List.getElem?_cons_zero]; rfl) (fun K' hK' => ?_)
      have HK' := Lib.hid hK'; clear hK'
      go_simp
      exact HK'.out _ _ HK.out)
    · intro a wz K hb ht hd hM hK
      have hbw := Lib.hid (C2.out.trans ((Below.refl w1.heap.size w2).drew.trans hb)); clear hb
      have HK := Lib.hid hK; clear hK
      all_goals (
      have hx7 := (ht 7 rfl).trans rfl
      have es7 : a.tmps.getD 7 undef = _ := getD_of hx7; clear hx7
      have hx14 : a.tmps[14]? = some (.int .u8 3) := hd 3 _ rfl (by kernel_rfl)
      have es14 : a.tmps.getD 14 undef = _ := getD_of hx14; clear hx14
      clear ht hd
      clear hM
      refine wpOp_step (by simp only [List.getElem?_toArray, List.getElem?_cons_succ, List.getElem?_cons_zero]; rfl) (fun K' hK' => ?_)
      have HK' := Lib.hid hK'; clear hK'
      go_simp
      exact HK'.out _ _ HK.out)
  · refine ⟨?_, ?_, trivial⟩
    · intro a wz cs K hb ht hd hbx hsz hK
      have HK := Lib.hid hK; clear hK hb
      all_goals (
      have hx23 : a.tmps[23]? = some (.pointer (some ⟨w.heap.size + 1, 0, none⟩)) := hd 12 _ rfl (by kernel_rfl)
      have es23 : a.tmps.getD 23 undef = _ := getD_of hx23; clear hx23
      have hx18 : a.tmps[18]? = some (.agg #[.int .i64 a0_6, .int .i64 a0_7]) := hd 7 _ rfl (by kernel_rfl)
      have es18 : a.tmps.getD 18 undef = _ := getD_of hx18; clear hx18
      clear ht hd
      obtain ⟨zv0, zc0⟩ := hbx.some (i := 0 + 0) (by rw [hsz]; simp); have zf0 := hbx.free (0 + 0)
      obtain ⟨zv1, zc1⟩ := hbx.some (i := 0 + 1) (by rw [hsz]; simp); have zf1 := hbx.free (0 + 1)
      have zl := hbx.lt; clear hbx hsz
      refine wpOp_step (by simp only [List.getElem?_toArray, List.getElem?_cons_succ, List.getElem?_cons_zero]; rfl) (fun K' hK' => ?_)
      have HK' := Lib.hid hK'; clear hK'
      go_simp
      exact HK'.out _ _ HK.out)
    · intro a wz cs K hb ht hd hbx hsz hK
      have HK := Lib.hid hK; clear hK hb
      all_goals (
      have hx24 : a.tmps[24]? = some (.pointer (some ⟨w.heap.size + 1, 6, none⟩)) := hd 13 _ rfl (by kernel_rfl)
      have es24 : a.tmps.getD 24 undef = _ := getD_of hx24; clear hx24
      have hx22 : a.tmps[22]? = some (.agg #[.int .i64 a0_0, .int .i64 a0_1]) := hd 11 _ rfl (by kernel_rfl)
      have es22 : a.tmps.getD 22 undef = _ := getD_of hx22; clear hx22
      clear ht hd
      obtain ⟨zv0, zc0⟩ := hbx.some (i := 6 + 0) (by rw [hsz]; simp); have zf0 := hbx.free (6 + 0)
      obtain ⟨zv1, zc1⟩ := hbx.some (i := 6 + 1) (by rw [hsz]; simp); have zf1 := hbx.free (6 + 1)
      have zl := hbx.lt; clear hbx hsz
      refine wpOp_step (by simp only [List.getElem?_toArray, List.getElem?_cons_succ, List.getElem?_cons_zero]; rfl) (fun K' hK' => ?_)
      have HK' := Lib.hid hK'; clear hK'
      go_simp
      exact HK'.out _ _ HK.out)
  intro w3 hb hx
  have C3 := Lib.hid (C2.out.trans ((Below.refl w1.heap.size w2).drew.trans hb)); clear hb
  have M3 : Hid (Bx w3 (w.heap.size + 1) #[.int .i64 a0_6, .int .i64 a0_7, .int .i64 a0_2, .int .i64 a0_3, .int .i64 a0_4, .int .i64 a0_5, .int .i64 a0_0, .int .i64 a0_1] 48) := Lib.hid hx; clear hx M2 MD C2
  simp only [List.foldl_cons, List.foldl_nil, Act.put, List.setIfInBounds_toArray, List.set_cons_zero, List.set_cons_succ]
  have FT_4 := Lib.hid (FT_1.out.below C3.out (Nat.le_refl _))
  have FA_4 := Lib.hid (FA_1.out.below C3.out (Nat.le_refl _))
  have HB4 := Lib.hid (HB1.out.trans (C3.out.mono HB1.out.size))
  have FM_4 := M3
  clear HB1 FT_1 FA_1 C3 M3
  go_wp2_with fail
  have RB4 := Lib.hid (below_drew0 w3)
  have QS4 := Lib.hid (show w3.cell? ⟨w.heap.size, 0, none⟩ = some (.int .i64 a0_0) ∧ w3.cell? ⟨w.heap.size, 1, none⟩ = some (.int .i64 a0_1) ∧ w3.cell? ⟨w.heap.size, 2, none⟩ = some (.int .i64 a0_2) ∧ w3.cell? ⟨w.heap.size, 3, none⟩ = some (.int .i64 a0_3) ∧ w3.cell? ⟨w.heap.size, 4, none⟩ = some (.int .i64 a0_4) ∧ w3.cell? ⟨w.heap.size, 5, none⟩ = some (.int .i64 a0_5) ∧ w3.cell? ⟨w.heap.size, 6, none⟩ = some (.int .i64 a0_6) ∧ w3.cell? ⟨w.heap.size, 7, none⟩ = some (.int .i64 a0_7) ∧ w3.cell? ⟨w.heap.size + 1, 0, none⟩ = some (.int .i64 a0_6) ∧ w3.cell? ⟨w.heap.size + 1, 1, none⟩ = some (.int .i64 a0_7) ∧ w3.cell? ⟨w.heap.size + 1, 2, none⟩ = some (.int .i64 a0_2) ∧ w3.cell? ⟨w.heap.size + 1, 3, none⟩ = some (.int .i64 a0_3) ∧ w3.cell? ⟨w.heap.size + 1, 4, none⟩ = some (.int .i64 a0_4) ∧ w3.cell? ⟨w.heap.size + 1, 5, none⟩ = some (.int .i64 a0_5) ∧ w3.cell? ⟨w.heap.size + 1, 6, none⟩ = some (.int .i64 a0_0) ∧ w3.cell? ⟨w.heap.size + 1, 7, none⟩ = some (.int .i64 a0_1) from ⟨FA_4.out.cell 0 (v := .int .i64 a0_0) rfl, FA_4.out.cell 1 (v := .int .i64 a0_1) rfl, FA_4.out.cell 2 (v := .int .i64 a0_2) rfl, FA_4.out.cell 3 (v := .int .i64 a0_3) rfl, FA_4.out.cell 4 (v := .int .i64 a0_4) rfl, FA_4.out.cell 5 (v := .int .i64 a0_5) rfl, FA_4.out.cell 6 (v := .int .i64 a0_6) rfl, FA_4.out.cell 7 (v := .int .i64 a0_7) rfl, FM_4.out.cell 0 (v := .int .i64 a0_6) rfl, FM_4.out.cell 1 (v := .int .i64 a0_7) rfl, FM_4.out.cell 2 (v := .int .i64 a0_2) rfl, FM_4.out.cell 3 (v := .int .i64 a0_3) rfl, FM_4.out.cell 4 (v := .int .i64 a0_4) rfl, FM_4.out.cell 5 (v := .int .i64 a0_5) rfl, FM_4.out.cell 6 (v := .int .i64 a0_0) rfl, FM_4.out.cell 7 (v := .int .i64 a0_1) rfl⟩)
  have QF4 := Lib.hid (show ∀ w', Below w3.heap.size w3 w' → w'.cell? ⟨w.heap.size, 0, none⟩ = some (.int .i64 a0_0) ∧ w'.cell? ⟨w.heap.size, 1, none⟩ = some (.int .i64 a0_1) ∧ w'.cell? ⟨w.heap.size, 2, none⟩ = some (.int .i64 a0_2) ∧ w'.cell? ⟨w.heap.size, 3, none⟩ = some (.int .i64 a0_3) ∧ w'.cell? ⟨w.heap.size, 4, none⟩ = some (.int .i64 a0_4) ∧ w'.cell? ⟨w.heap.size, 5, none⟩ = some (.int .i64 a0_5) ∧ w'.cell? ⟨w.heap.size, 6, none⟩ = some (.int .i64 a0_6) ∧ w'.cell? ⟨w.heap.size, 7, none⟩ = some (.int .i64 a0_7) ∧ w'.cell? ⟨w.heap.size + 1, 0, none⟩ = some (.int .i64 a0_6) ∧ w'.cell? ⟨w.heap.size + 1, 1, none⟩ = some (.int .i64 a0_7) ∧ w'.cell? ⟨w.heap.size + 1, 2, none⟩ = some (.int .i64 a0_2) ∧ w'.cell? ⟨w.heap.size + 1, 3, none⟩ = some (.int .i64 a0_3) ∧ w'.cell? ⟨w.heap.size + 1, 4, none⟩ = some (.int .i64 a0_4) ∧ w'.cell? ⟨w.heap.size + 1, 5, none⟩ = some (.int .i64 a0_5) ∧ w'.cell? ⟨w.heap.size + 1, 6, none⟩ = some (.int .i64 a0_0) ∧ w'.cell? ⟨w.heap.size + 1, 7, none⟩ = some (.int .i64 a0_1) from fun w' hb => ⟨(FA_4.out.below hb (Nat.le_refl _)).cell 0 (v := .int .i64 a0_0) rfl, (FA_4.out.below hb (Nat.le_refl _)).cell 1 (v := .int .i64 a0_1) rfl, (FA_4.out.below hb (Nat.le_refl _)).cell 2 (v := .int .i64 a0_2) rfl, (FA_4.out.below hb (Nat.le_refl _)).cell 3 (v := .int .i64 a0_3) rfl, (FA_4.out.below hb (Nat.le_refl _)).cell 4 (v := .int .i64 a0_4) rfl, (FA_4.out.below hb (Nat.le_refl _)).cell 5 (v := .int .i64 a0_5) rfl, (FA_4.out.below hb (Nat.le_refl _)).cell 6 (v := .int .i64 a0_6) rfl, (FA_4.out.below hb (Nat.le_refl _)).cell 7 (v := .int .i64 a0_7) rfl, (FM_4.out.below hb (Nat.le_refl _)).cell 0 (v := .int .i64 a0_6) rfl, (FM_4.out.below hb (Nat.le_refl _)).cell 1 (v := .int .i64 a0_7) rfl, (FM_4.out.below hb (Nat.le_refl _)).cell 2 (v := .int .i64 a0_2) rfl, (FM_4.out.below hb (Nat.le_refl _)).cell 3 (v := .int .i64 a0_3) rfl, (FM_4.out.below hb (Nat.le_refl _)).cell 4 (v := .int .i64 a0_4) rfl, (FM_4.out.below hb (Nat.le_refl _)).cell 5 (v := .int .i64 a0_5) rfl, (FM_4.out.below hb (Nat.le_refl _)).cell 6 (v := .int .i64 a0_0) rfl, (FM_4.out.below hb (Nat.le_refl _)).cell 7 (v := .int .i64 a0_1) rfl⟩)
  go_region_held3 (fun w' => w'.cell? ⟨w.heap.size, 0, none⟩ = some (.int .i64 a0_0) ∧ w'.cell? ⟨w.heap.size, 1, none⟩ = some (.int .i64 a0_1) ∧ w'.cell? ⟨w.heap.size, 2, none⟩ = some (.int .i64 a0_2) ∧ w'.cell? ⟨w.heap.size, 3, none⟩ = some (.int .i64 a0_3) ∧ w'.cell? ⟨w.heap.size, 4, none⟩ = some (.int .i64 a0_4) ∧ w'.cell? ⟨w.heap.size, 5, none⟩ = some (.int .i64 a0_5) ∧ w'.cell? ⟨w.heap.size, 6, none⟩ = some (.int .i64 a0_6) ∧ w'.cell? ⟨w.heap.size, 7, none⟩ = some (.int .i64 a0_7) ∧ w'.cell? ⟨w.heap.size + 1, 0, none⟩ = some (.int .i64 a0_6) ∧ w'.cell? ⟨w.heap.size + 1, 1, none⟩ = some (.int .i64 a0_7) ∧ w'.cell? ⟨w.heap.size + 1, 2, none⟩ = some (.int .i64 a0_2) ∧ w'.cell? ⟨w.heap.size + 1, 3, none⟩ = some (.int .i64 a0_3) ∧ w'.cell? ⟨w.heap.size + 1, 4, none⟩ = some (.int .i64 a0_4) ∧ w'.cell? ⟨w.heap.size + 1, 5, none⟩ = some (.int .i64 a0_5) ∧ w'.cell? ⟨w.heap.size + 1, 6, none⟩ = some (.int .i64 a0_0) ∧ w'.cell? ⟨w.heap.size + 1, 7, none⟩ = some (.int .i64 a0_1)) (first | with_reducible exact QF4.out _ RB6.out | with_reducible exact QF4.out _ RB5.out | with_reducible exact QS4.out | with_reducible exact QF4.out _ RB4.out) (first
      | (go_at_call 31; have := RB5; clear this; refine (circle_Value a0_6 a0_7 a0_2 a0_3 a0_4 a0_5 a0_0 a0_1 q2 _).mono ?_; rintro e w6 ⟨⟨U2, u2, rfl, S2⟩, B⟩; have RB6 := Lib.hid (RB5.out.trans (B.mono RB5.out.size)); have RV1_6 := Lib.hid (RV1_5.out.below B (Nat.le_refl _)); have RV2_6 := Lib.hid S2; clear B S2)
      | (go_at_call 31; have := RB4; clear this; refine (circle_Value a0_0 a0_1 a0_2 a0_3 a0_4 a0_5 a0_6 a0_7 q1 _).mono ?_; rintro e w5 ⟨⟨U1, u1, rfl, S1⟩, B⟩; have RB5 := Lib.hid (RB4.out.trans (B.mono RB4.out.size)); have RV1_5 := Lib.hid S1; clear B S1))
  have FT_6 := Lib.hid (FT_4.out.below RB6.out (Nat.le_refl _))
  have FA_6 := Lib.hid (FA_4.out.below RB6.out (Nat.le_refl _))
  have FM_6 := Lib.hid (FM_4.out.below RB6.out (Nat.le_refl _))
  have HB6 := Lib.hid (HB4.out.trans (RB6.out.mono HB4.out.size))
  clear HB4 FT_4 FA_4 FM_4
  go_wp2_with fail
  refine (alive7 _ FT_6.out).mono ?_
  rintro e w7 ⟨rfl, B⟩
  have HB7 := Lib.hid (HB6.out.trans (B.mono HB6.out.size))
  have FT_7 := Lib.hid (FT_6.out.below B (Nat.le_refl _))
  have FV1_7 := Lib.hid (RV1_6.out.below B (Nat.le_refl _))
  have FV2_7 := Lib.hid (RV2_6.out.below B (Nat.le_refl _))
  clear B  HB6 FT_6 RV1_6 RV2_6
  go_wp2_with fail
  refine (ref3_Value _ _ _ _ _ FV1_7.out q1.fit (by omega)).mono ?_
  rintro e w8 ⟨⟨Gx, gx, dx, rfl, bx_, Nx⟩, B⟩
  have HB8 := Lib.hid (HB7.out.trans (B.mono HB7.out.size))
  have FT_8 := Lib.hid (FT_7.out.below B (Nat.le_refl _))
  have FV1_8 := Lib.hid (FV1_7.out.below B (Nat.le_refl _))
  have FV2_8 := Lib.hid (FV2_7.out.below B (Nat.le_refl _))
  have FNx_8 := Lib.hid Nx
  clear B Nx HB7 FT_7 FV1_7 FV2_7
  go_wp2_with fail
  refine (ref3_Value _ _ _ _ _ FV2_8.out q2.fit (by omega)).mono ?_
  rintro e w9 ⟨⟨Gy, gy, dy, rfl, by_, Ny⟩, B⟩
  have HB9 := Lib.hid (HB8.out.trans (B.mono HB8.out.size))
  have FT_9 := Lib.hid (FT_8.out.below B (Nat.le_refl _))
  have FV1_9 := Lib.hid (FV1_8.out.below B (Nat.le_refl _))
  have FV2_9 := Lib.hid (FV2_8.out.below B (Nat.le_refl _))
  have FNx_9 := Lib.hid (FNx_8.out.below B (Nat.le_refl _))
  have FNy_9 := Lib.hid Ny
  clear B Ny HB8 FT_8 FV1_8 FV2_8 FNx_8
  go_wp2_with fail
  refine (ref3_AddZ _ _ _ _ _ _ _ _ 0 hz.out _ FNx_9.out FNy_9.out (by omega) (by omega)).mono ?_
  rintro e w10 ⟨⟨Gz, gz, dz, rfl, bz_, Nz⟩, B⟩
  have HB10 := Lib.hid (HB9.out.trans (B.mono HB9.out.size))
  have FT_10 := Lib.hid (FT_9.out.below B (Nat.le_refl _))
  have FV1_10 := Lib.hid (FV1_9.out.below B (Nat.le_refl _))
  have FV2_10 := Lib.hid (FV2_9.out.below B (Nat.le_refl _))
  have FNx_10 := Lib.hid (FNx_9.out.below B (Nat.le_refl _))
  have FNy_10 := Lib.hid (FNy_9.out.below B (Nat.le_refl _))
  clear B  HB9 FT_9 FV1_9 FV2_9 FNx_9 FNy_9
  clear Nz; rw [show sg 0 = 0 from rfl]
  go_wp2_with fail
  go_ret
  exact ⟨rfl, HB10.out⟩

end Go.Proofs.YtfjanlfbnliokaaDoor
