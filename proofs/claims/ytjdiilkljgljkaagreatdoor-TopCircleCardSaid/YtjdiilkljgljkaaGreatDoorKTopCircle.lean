/- TopCircle: for every input the law returns true, and each argument reads afterwards as it read before; the package variable that the row lists holds what it lists. -/
import Derived.Test.YtjdiilkljgljkaaGreatDoorCards
import Derived.Test.YtjdiilkljgljkaaGreatDoorTie
import Derived.Test.YtjdiilkljgljkaaGreatDoorMf
import Derived.Test.YtjdiilkljgljkaaGreatDoorMg
import Derived.Test.YtjdiilkljgljkaaGreatDoorMa
import Derived.WalkKit
import Derived.ProofKit
import Derived.OpenShut
import Derived.Below
import Derived.Deep.DeepHandedRow
import Derived.Lib.LaidTab
namespace Go.Proofs.YtjdiilkljgljkaaGreatDoor.topCircle
open Go.ChangeShapes Go.WideShapes Go.ChangeAt Go.RowKit Wd
set_option linter.unusedVariables false
set_option linter.unusedSimpArgs false

theorem own : ownKnob Tryz.prog.godebug = none := by kernel_rfl
theorem laidOut : laidOutB Tryz.prog = true := by kernel_rfl

def sel4 (x y z u : Int) : Nat → Int := fun i => if i = 0 then x else if i = 1 then y else if i = 2 then z else u
theorem bx_pts4 {w : World} {b : Nat} {ax ay bx b_ cx cy dx dy : Int} {t : TypeId} (h : Bx w b #[.int .i64 ax, .int .i64 ay, .int .i64 bx, .int .i64 b_, .int .i64 cx, .int .i64 cy, .int .i64 dx, .int .i64 dy] t) (hp : P4 ax ay bx b_ cx cy dx dy) :
    Pts w (some ⟨b, 0, none⟩) 4 4 (sel4 ax bx cx dx) (sel4 ay b_ cy dy) :=
  ⟨Nat.le_refl _, by decide, fun i hi => by
    match i, hi with
    | 0, _ => exact ⟨hp.a, hp.b⟩
    | 1, _ => exact ⟨hp.c, hp.d⟩
    | 2, _ => exact ⟨hp.e, hp.f⟩
    | 3, _ => exact ⟨hp.g, hp.h⟩, fun _ => ⟨b, 0, rfl, h.lt, fun i hi => by
    match i, hi with
    | 0, _ => exact ⟨h.cell 0 rfl, h.cell 1 rfl⟩
    | 1, _ => exact ⟨h.cell 2 rfl, h.cell 3 rfl⟩
    | 2, _ => exact ⟨h.cell 4 rfl, h.cell 5 rfl⟩
    | 3, _ => exact ⟨h.cell 6 rfl, h.cell 7 rfl⟩⟩⟩
set_option maxRecDepth 100000 in
set_option maxHeartbeats 4000000 in
theorem walk {w : World} (a0_0 a0_1 a0_2 a0_3 a0_4 a0_5 a0_6 a0_7 : Int) (w0_0 : (Lit.int .i64 a0_0).wf = true) (w0_1 : (Lit.int .i64 a0_1).wf = true) (w0_2 : (Lit.int .i64 a0_2).wf = true) (w0_3 : (Lit.int .i64 a0_3).wf = true) (w0_4 : (Lit.int .i64 a0_4).wf = true) (w0_5 : (Lit.int .i64 a0_5).wf = true) (w0_6 : (Lit.int .i64 a0_6).wf = true) (w0_7 : (Lit.int .i64 a0_7).wf = true) (hT : TabM w) (hF : TabF w) :
    Calls Tryz.prog 4 #[.agg #[.int .i64 a0_0, .int .i64 a0_1, .int .i64 a0_2, .int .i64 a0_3, .int .i64 a0_4, .int .i64 a0_5, .int .i64 a0_6, .int .i64 a0_7]] w fun e w' => e = .returned (.bool true) ∧ Below w.heap.size w w' := by
  have HB0 := Lib.hid (Below.refl w.heap.size w)
  have i0_0 := isI_of_wf w0_0
  have i0_1 := isI_of_wf w0_1
  have i0_2 := isI_of_wf w0_2
  have i0_3 := isI_of_wf w0_3
  have i0_4 := isI_of_wf w0_4
  have i0_5 := isI_of_wf w0_5
  have i0_6 := isI_of_wf w0_6
  have i0_7 := isI_of_wf w0_7
  have FT := Lib.hid hT; clear hT
  have FF := Lib.hid hF; clear hF
  have HP4 := Lib.hid (show P4 a0_0 a0_1 a0_2 a0_3 a0_4 a0_5 a0_6 a0_7 from ⟨i0_0, i0_1, i0_2, i0_3, i0_4, i0_5, i0_6, i0_7⟩)
  have hfd : ∀ (s : Int) (V : Option Addr) (k c : Nat) (w : World), (Instr.field 41 (.agg #[.int .i64 s, .slice V k c]) 0).run Tryz.prog w = .ok (.int .i64 s) w := fun _ _ _ _ _ => by kernel_rfl
  go_enter Tryz.func4, Tryz.ntmps4
  go_wp2_with fail
  have B : Below w.heap.size w (w.alloc (.cells #[.int .i64 a0_0, .int .i64 a0_1, .int .i64 a0_2, .int .i64 a0_3, .int .i64 a0_4, .int .i64 a0_5, .int .i64 a0_6, .int .i64 a0_7] 38)) := (HB0.out.alloc HB0.out.size _)
  have C : Below w.heap.size w (w.alloc (.cells #[.int .i64 a0_0, .int .i64 a0_1, .int .i64 a0_2, .int .i64 a0_3, .int .i64 a0_4, .int .i64 a0_5, .int .i64 a0_6, .int .i64 a0_7] 38)) := ((Below.refl w.heap.size w).alloc (Nat.le_refl _) _)
  have X0 : Bx (w.alloc (.cells #[.int .i64 a0_0, .int .i64 a0_1, .int .i64 a0_2, .int .i64 a0_3, .int .i64 a0_4, .int .i64 a0_5, .int .i64 a0_6, .int .i64 a0_7] 38)) (w.heap.size) #[.int .i64 a0_0, .int .i64 a0_1, .int .i64 a0_2, .int .i64 a0_3, .int .i64 a0_4, .int .i64 a0_5, .int .i64 a0_6, .int .i64 a0_7] 38 := by simpa using (Bx.new w #[.int .i64 a0_0, .int .i64 a0_1, .int .i64 a0_2, .int .i64 a0_3, .int .i64 a0_4, .int .i64 a0_5, .int .i64 a0_6, .int .i64 a0_7] 38)
  have FT_1 := Lib.hid (FT.out.below C (Nat.le_refl _))
  have FF_1 := Lib.hid (FF.out.below C (Nat.le_refl _))
  have HB1 := Lib.hid B
  have FA_1 := Lib.hid X0
  clear B C X0 HB0 FT FF
  generalize (w.alloc (.cells #[.int .i64 a0_0, .int .i64 a0_1, .int .i64 a0_2, .int .i64 a0_3, .int .i64 a0_4, .int .i64 a0_5, .int .i64 a0_6, .int .i64 a0_7] 38)) = w1 at *
  have FV := Lib.hid (bx_pts4 FA_1.out HP4.out)
  skip
  refine (top_request12 2 (by decide) _ 4 _ _ _ FV.out).mono ?_
  rintro e w2 ⟨⟨A1, c1, rfl, hy⟩, B⟩
  have HB2 := Lib.hid (HB1.out.trans (B.mono HB1.out.size))
  have FT_2 := Lib.hid (FT_1.out.below B (Nat.le_refl _))
  have FF_2 := Lib.hid (FF_1.out.below B (Nat.le_refl _))
  have FA_2 := Lib.hid (FA_1.out.below B (Nat.le_refl _))
  have FV_2 := Lib.hid (FV.out.below B (Nat.le_refl _))
  have FY_2 := Lib.hid hy
  clear B hy HB1 FT_1 FF_1 FA_1 FV
  go_wp2_with fail
  have HX := Lib.hid (show sg (circ a0_0 a0_1 a0_2 a0_3 a0_4 a0_5 a0_6 a0_7) + 1 = 0 ∨ sg (circ a0_0 a0_1 a0_2 a0_3 a0_4 a0_5 a0_6 a0_7) + 1 = 1 ∨ sg (circ a0_0 a0_1 a0_2 a0_3 a0_4 a0_5 a0_6 a0_7) + 1 = 2 from by have := sg_range (circ a0_0 a0_1 a0_2 a0_3 a0_4 a0_5 a0_6 a0_7); omega)
  have e1 : IntKind.i64.wrap (sg (circ a0_0 a0_1 a0_2 a0_3 a0_4 a0_5 a0_6 a0_7) + 1) = sg (circ a0_0 a0_1 a0_2 a0_3 a0_4 a0_5 a0_6 a0_7) + 1 := by have := HX.out; rw [IntKind.wrap_i64]; omega
  have e2 : IntKind.u8.wrap (sg (circ a0_0 a0_1 a0_2 a0_3 a0_4 a0_5 a0_6 a0_7) + 1) = sg (circ a0_0 a0_1 a0_2 a0_3 a0_4 a0_5 a0_6 a0_7) + 1 := by have := HX.out; rw [IntKind.wrap_u8]; omega
  have HSI := Lib.hid (show ∀ i, i < 4 → IsI (sel4 a0_0 a0_2 a0_4 a0_6 i) ∧ IsI (sel4 a0_1 a0_3 a0_5 a0_7 i) from fun i hi => by match i, hi with | 0, _ => exact ⟨i0_0, i0_1⟩ | 1, _ => exact ⟨i0_2, i0_3⟩ | 2, _ => exact ⟨i0_4, i0_5⟩ | 3, _ => exact ⟨i0_6, i0_7⟩)
  skip
  refine (wpIn_wide (n := 0)).1 ?_
  refine wpIn_region_any (by kernel_rfl) ?_
  change wpAnyIn _ _ _ _ _ _ _ _ _ (World.drew _)
  have RB2 := Lib.hid (below_drew0 w2)
  refine wpAnyIn_tail WideF.wide (fun a b => Below a.heap.size a b) (fun _ => below_rf) (fun _ _ _ h k => below_tr h k) [⟨0, 8, fun z_ _ => z_ = .bool true⟩, ⟨1, 9, fun z_ _ => z_ = .bool true⟩, ⟨2, 10, fun z_ _ => z_ = .slice A1 (16 * ((2 : Int) + 2).toNat + 1) c1⟩, ⟨3, 11, fun x w => ∃ q : Option Addr × Nat, x = .slice q.1 2 q.2 ∧ By w q.1 q.2 [0, sg (circ a0_0 a0_1 a0_2 a0_3 a0_4 a0_5 a0_6 a0_7) + 1]⟩, ⟨4, 12, fun z_ _ => z_ = .pointer (some ⟨w.heap.size, 0, none⟩)⟩, ⟨5, 13, fun z_ _ => z_ = .agg #[.int .i64 a0_0, .int .i64 a0_1]⟩, ⟨6, 14, fun z_ _ => z_ = .pointer (some ⟨w.heap.size, 2, none⟩)⟩, ⟨7, 15, fun z_ _ => z_ = .agg #[.int .i64 a0_2, .int .i64 a0_3]⟩, ⟨8, 16, fun z_ _ => z_ = .pointer (some ⟨w.heap.size, 4, none⟩)⟩, ⟨9, 17, fun z_ _ => z_ = .agg #[.int .i64 a0_4, .int .i64 a0_5]⟩, ⟨10, 18, fun z_ _ => z_ = .pointer (some ⟨w.heap.size, 6, none⟩)⟩, ⟨11, 19, fun z_ _ => z_ = .agg #[.int .i64 a0_6, .int .i64 a0_7]⟩, ⟨12, 20, fun x _ => ∃ q : Option Addr × Nat × Nat, x = .agg #[.int .i64 (sg (circ a0_0 a0_1 a0_2 a0_3 a0_4 a0_5 a0_6 a0_7)), .slice q.1 q.2.1 q.2.2]⟩, ⟨13, 21, fun z_ _ => z_ = .int .i64 (sg (circ a0_0 a0_1 a0_2 a0_3 a0_4 a0_5 a0_6 a0_7))⟩, ⟨14, 22, fun z_ _ => z_ = .int .i64 (sg (circ a0_0 a0_1 a0_2 a0_3 a0_4 a0_5 a0_6 a0_7) + 1)⟩, ⟨15, 23, fun z_ _ => z_ = .int .u8 (sg (circ a0_0 a0_1 a0_2 a0_3 a0_4 a0_5 a0_6 a0_7) + 1)⟩, ⟨16, 24, fun x w => ∃ b_ : Nat, x = .slice (some ⟨b_, 0, none⟩) 2 2 ∧ Bx w b_ #[.int .u8 0, .int .u8 (sg (circ a0_0 a0_1 a0_2 a0_3 a0_4 a0_5 a0_6 a0_7) + 1)] 5⟩, ⟨17, 25, fun z_ _ => z_ = .bool true⟩, ⟨18, 26, fun z_ _ => z_ = .bool true⟩, ⟨19, 2, fun z_ _ => z_ = .bool true⟩] 20 (by kernel_rfl) ?_ ?_ ?_
  · refine ⟨?_, ?_, ?_, ?_, ?_, ?_, ?_, ?_, ?_, ?_, ?_, ?_, ?_, ?_, ?_, ?_, ?_, ?_, ?_, ?_, trivial⟩
    all_goals (intro x w w' hb h; first | exact h | (obtain ⟨b_, h1, h2⟩ := h; exact ⟨b_, h1, h2.below hb (Nat.le_refl _)⟩))
  · refine ⟨?_, ?_, ?_, ?_, ?_, ?_, ?_, ?_, ?_, ?_, ?_, ?_, ?_, ?_, ?_, ?_, ?_, ?_, ?_, ?_, trivial⟩
    · intro a wz K hb ht hd hK
      have hbw := Lib.hid (below_tr RB2.out hb); clear hb
      clear ht hd
      have HK := Lib.hid hK; clear hK
      refine wpOpP_step (by simp only [List.getElem?_toArray, List.getElem?_cons_succ, List.getElem?_cons_zero]; rfl) (fun K' hK' => ?_)
      have HK' := Lib.hid hK'; clear hK'
      go_simp
      refine (top_serves _ (FT_2.out.below hbw.out (Nat.le_refl _)) (FF_2.out.below hbw.out (Nat.le_refl _))).mono ?_
      rintro e w1 ⟨rfl, B⟩
      go_wp2_with fail
      exact HK'.out _ _ (HK.out _ _ B rfl)
    · intro a wz K hb ht hd hK
      have hbw := Lib.hid (below_tr RB2.out hb); clear hb
      obtain ⟨x8, hx8, hp8⟩ := hd 0 _ rfl (by kernel_rfl)
      obtain rfl := hp8
      have es8 : a.tmps.getD 8 undef = _ := getD_of hx8; clear hx8
      clear ht hd
      have HK := Lib.hid hK; clear hK
      refine wpOpP_step (by simp only [List.getElem?_toArray, List.getElem?_cons_succ, List.getElem?_cons_zero]; rfl) (fun K' hK' => ?_)
      have HK' := Lib.hid hK'; clear hK'
      go_simp
      exact HK'.out _ _ (HK.out _ _ below_rf rfl)
    · intro a wz K hb ht hd hK
      have hbw := Lib.hid (below_tr RB2.out hb); clear hb
      have hx3 := (ht 3 rfl).trans rfl
      have es3 : a.tmps.getD 3 undef = _ := getD_of hx3; clear hx3
      obtain ⟨x9, hx9, hp9⟩ := hd 1 _ rfl (by kernel_rfl)
      obtain rfl := hp9
      have es9 : a.tmps.getD 9 undef = _ := getD_of hx9; have gs9 : a.tmps[9]? = some _ := hx9; clear hx9
      clear ht hd
      have HK := Lib.hid hK; clear hK
      refine wpOpP_step (by simp only [List.getElem?_toArray, List.getElem?_cons_succ, List.getElem?_cons_zero]; rfl) (fun K' hK' => ?_)
      have HK' := Lib.hid hK'; clear hK'
      go_simp
      exact HK'.out _ _ (HK.out _ _ below_rf rfl)
    · intro a wz K hb ht hd hK
      have hbw := Lib.hid (below_tr RB2.out hb); clear hb
      obtain ⟨x10, hx10, hp10⟩ := hd 2 _ rfl (by kernel_rfl)
      obtain rfl := hp10
      have es10 : a.tmps.getD 10 undef = _ := getD_of hx10; clear hx10
      obtain ⟨x9, hx9, hp9⟩ := hd 1 _ rfl (by kernel_rfl)
      obtain rfl := hp9
      have es9 : a.tmps.getD 9 undef = _ := getD_of hx9; have gs9 : a.tmps[9]? = some _ := hx9; clear hx9
      clear ht hd
      have HK := Lib.hid hK; clear hK
      refine wpOpP_step (by simp only [List.getElem?_toArray, List.getElem?_cons_succ, List.getElem?_cons_zero]; rfl) (fun K' hK' => ?_)
      have HK' := Lib.hid hK'; clear hK'
      go_simp
      refine (serve_Serve2 A1 c1 _ _ _ (FT_2.out.below hbw.out (Nat.le_refl _)) (FF_2.out.below hbw.out (Nat.le_refl _)) (HSI.out) (FY_2.out.below hbw.out (Nat.le_refl _))).mono ?_
      rintro e w1 ⟨⟨A2, c2, rfl, hy2⟩, B⟩
      go_wp2_with fail
      exact HK'.out _ _ (HK.out _ _ B ⟨(A2, c2), rfl, hy2⟩)
    · intro a wz K hb ht hd hK
      have hbw := Lib.hid (below_tr RB2.out hb); clear hb
      have hx1 := (ht 1 rfl).trans rfl
      have es1 : a.tmps.getD 1 undef = _ := getD_of hx1; clear hx1
      obtain ⟨x9, hx9, hp9⟩ := hd 1 _ rfl (by kernel_rfl)
      obtain rfl := hp9
      have es9 : a.tmps.getD 9 undef = _ := getD_of hx9; have gs9 : a.tmps[9]? = some _ := hx9; clear hx9
      clear ht hd
      have HK := Lib.hid hK; clear hK
      refine wpOpP_step (by simp only [List.getElem?_toArray, List.getElem?_cons_succ, List.getElem?_cons_zero]; rfl) (fun K' hK' => ?_)
      have HK' := Lib.hid hK'; clear hK'
      go_simp
      exact HK'.out _ _ (HK.out _ _ below_rf rfl)
    · intro a wz K hb ht hd hK
      have hbw := Lib.hid (below_tr RB2.out hb); clear hb
      obtain ⟨x12, hx12, hp12⟩ := hd 4 _ rfl (by kernel_rfl)
      obtain rfl := hp12
      have es12 : a.tmps.getD 12 undef = _ := getD_of hx12; clear hx12
      obtain ⟨x9, hx9, hp9⟩ := hd 1 _ rfl (by kernel_rfl)
      obtain rfl := hp9
      have es9 : a.tmps.getD 9 undef = _ := getD_of hx9; have gs9 : a.tmps[9]? = some _ := hx9; clear hx9
      clear ht hd
      have zc0 := (FA_2.out.below hbw.out (Nat.le_refl _)).cell 0 (v := .int .i64 a0_0) rfl
      have zc1 := (FA_2.out.below hbw.out (Nat.le_refl _)).cell 1 (v := .int .i64 a0_1) rfl
      have HK := Lib.hid hK; clear hK
      refine wpOpP_step (by simp only [List.getElem?_toArray, List.getElem?_cons_succ, List.getElem?_cons_zero]; rfl) (fun K' hK' => ?_)
      have HK' := Lib.hid hK'; clear hK'
      go_simp
      exact HK'.out _ _ (HK.out _ _ below_rf rfl)
    · intro a wz K hb ht hd hK
      have hbw := Lib.hid (below_tr RB2.out hb); clear hb
      have hx1 := (ht 1 rfl).trans rfl
      have es1 : a.tmps.getD 1 undef = _ := getD_of hx1; clear hx1
      obtain ⟨x9, hx9, hp9⟩ := hd 1 _ rfl (by kernel_rfl)
      obtain rfl := hp9
      have es9 : a.tmps.getD 9 undef = _ := getD_of hx9; have gs9 : a.tmps[9]? = some _ := hx9; clear hx9
      clear ht hd
      have HK := Lib.hid hK; clear hK
      refine wpOpP_step (by simp only [List.getElem?_toArray, List.getElem?_cons_succ, List.getElem?_cons_zero]; rfl) (fun K' hK' => ?_)
      have HK' := Lib.hid hK'; clear hK'
      go_simp
      exact HK'.out _ _ (HK.out _ _ below_rf rfl)
    · intro a wz K hb ht hd hK
      have hbw := Lib.hid (below_tr RB2.out hb); clear hb
      obtain ⟨x14, hx14, hp14⟩ := hd 6 _ rfl (by kernel_rfl)
      obtain rfl := hp14
      have es14 : a.tmps.getD 14 undef = _ := getD_of hx14; clear hx14
      obtain ⟨x9, hx9, hp9⟩ := hd 1 _ rfl (by kernel_rfl)
      obtain rfl := hp9
      have es9 : a.tmps.getD 9 undef = _ := getD_of hx9; have gs9 : a.tmps[9]? = some _ := hx9; clear hx9
      clear ht hd
      have zc0 := (FA_2.out.below hbw.out (Nat.le_refl _)).cell 2 (v := .int .i64 a0_2) rfl
      have zc1 := (FA_2.out.below hbw.out (Nat.le_refl _)).cell 3 (v := .int .i64 a0_3) rfl
      have HK := Lib.hid hK; clear hK
      refine wpOpP_step (by simp only [List.getElem?_toArray, List.getElem?_cons_succ, List.getElem?_cons_zero]; rfl) (fun K' hK' => ?_)
      have HK' := Lib.hid hK'; clear hK'
      go_simp
      exact HK'.out _ _ (HK.out _ _ below_rf rfl)
    · intro a wz K hb ht hd hK
      have hbw := Lib.hid (below_tr RB2.out hb); clear hb
      have hx1 := (ht 1 rfl).trans rfl
      have es1 : a.tmps.getD 1 undef = _ := getD_of hx1; clear hx1
      obtain ⟨x9, hx9, hp9⟩ := hd 1 _ rfl (by kernel_rfl)
      obtain rfl := hp9
      have es9 : a.tmps.getD 9 undef = _ := getD_of hx9; have gs9 : a.tmps[9]? = some _ := hx9; clear hx9
      clear ht hd
      have HK := Lib.hid hK; clear hK
      refine wpOpP_step (by simp only [List.getElem?_toArray, List.getElem?_cons_succ, List.getElem?_cons_zero]; rfl) (fun K' hK' => ?_)
      have HK' := Lib.hid hK'; clear hK'
      go_simp
      exact HK'.out _ _ (HK.out _ _ below_rf rfl)
    · intro a wz K hb ht hd hK
      have hbw := Lib.hid (below_tr RB2.out hb); clear hb
      obtain ⟨x16, hx16, hp16⟩ := hd 8 _ rfl (by kernel_rfl)
      obtain rfl := hp16
      have es16 : a.tmps.getD 16 undef = _ := getD_of hx16; clear hx16
      obtain ⟨x9, hx9, hp9⟩ := hd 1 _ rfl (by kernel_rfl)
      obtain rfl := hp9
      have es9 : a.tmps.getD 9 undef = _ := getD_of hx9; have gs9 : a.tmps[9]? = some _ := hx9; clear hx9
      clear ht hd
      have zc0 := (FA_2.out.below hbw.out (Nat.le_refl _)).cell 4 (v := .int .i64 a0_4) rfl
      have zc1 := (FA_2.out.below hbw.out (Nat.le_refl _)).cell 5 (v := .int .i64 a0_5) rfl
      have HK := Lib.hid hK; clear hK
      refine wpOpP_step (by simp only [List.getElem?_toArray, List.getElem?_cons_succ, List.getElem?_cons_zero]; rfl) (fun K' hK' => ?_)
      have HK' := Lib.hid hK'; clear hK'
      go_simp
      exact HK'.out _ _ (HK.out _ _ below_rf rfl)
    · intro a wz K hb ht hd hK
      have hbw := Lib.hid (below_tr RB2.out hb); clear hb
      have hx1 := (ht 1 rfl).trans rfl
      have es1 : a.tmps.getD 1 undef = _ := getD_of hx1; clear hx1
      obtain ⟨x9, hx9, hp9⟩ := hd 1 _ rfl (by kernel_rfl)
      obtain rfl := hp9
      have es9 : a.tmps.getD 9 undef = _ := getD_of hx9; have gs9 : a.tmps[9]? = some _ := hx9; clear hx9
      clear ht hd
      have HK := Lib.hid hK; clear hK
      refine wpOpP_step (by simp only [List.getElem?_toArray, List.getElem?_cons_succ, List.getElem?_cons_zero]; rfl) (fun K' hK' => ?_)
      have HK' := Lib.hid hK'; clear hK'
      go_simp
      exact HK'.out _ _ (HK.out _ _ below_rf rfl)
    · intro a wz K hb ht hd hK
      have hbw := Lib.hid (below_tr RB2.out hb); clear hb
      obtain ⟨x18, hx18, hp18⟩ := hd 10 _ rfl (by kernel_rfl)
      obtain rfl := hp18
      have es18 : a.tmps.getD 18 undef = _ := getD_of hx18; clear hx18
      obtain ⟨x9, hx9, hp9⟩ := hd 1 _ rfl (by kernel_rfl)
      obtain rfl := hp9
      have es9 : a.tmps.getD 9 undef = _ := getD_of hx9; have gs9 : a.tmps[9]? = some _ := hx9; clear hx9
      clear ht hd
      have zc0 := (FA_2.out.below hbw.out (Nat.le_refl _)).cell 6 (v := .int .i64 a0_6) rfl
      have zc1 := (FA_2.out.below hbw.out (Nat.le_refl _)).cell 7 (v := .int .i64 a0_7) rfl
      have HK := Lib.hid hK; clear hK
      refine wpOpP_step (by simp only [List.getElem?_toArray, List.getElem?_cons_succ, List.getElem?_cons_zero]; rfl) (fun K' hK' => ?_)
      have HK' := Lib.hid hK'; clear hK'
      go_simp
      exact HK'.out _ _ (HK.out _ _ below_rf rfl)
    · intro a wz K hb ht hd hK
      have hbw := Lib.hid (below_tr RB2.out hb); clear hb
      obtain ⟨x13, hx13, hp13⟩ := hd 5 _ rfl (by kernel_rfl)
      obtain rfl := hp13
      have es13 : a.tmps.getD 13 undef = _ := getD_of hx13; clear hx13
      obtain ⟨x15, hx15, hp15⟩ := hd 7 _ rfl (by kernel_rfl)
      obtain rfl := hp15
      have es15 : a.tmps.getD 15 undef = _ := getD_of hx15; clear hx15
      obtain ⟨x17, hx17, hp17⟩ := hd 9 _ rfl (by kernel_rfl)
      obtain rfl := hp17
      have es17 : a.tmps.getD 17 undef = _ := getD_of hx17; clear hx17
      obtain ⟨x19, hx19, hp19⟩ := hd 11 _ rfl (by kernel_rfl)
      obtain rfl := hp19
      have es19 : a.tmps.getD 19 undef = _ := getD_of hx19; clear hx19
      obtain ⟨x9, hx9, hp9⟩ := hd 1 _ rfl (by kernel_rfl)
      obtain rfl := hp9
      have es9 : a.tmps.getD 9 undef = _ := getD_of hx9; have gs9 : a.tmps[9]? = some _ := hx9; clear hx9
      clear ht hd
      have HK := Lib.hid hK; clear hK
      refine wpOpP_step (by simp only [List.getElem?_toArray, List.getElem?_cons_succ, List.getElem?_cons_zero]; rfl) (fun K' hK' => ?_)
      have HK' := Lib.hid hK'; clear hK'
      go_simp
      refine (ref7_Value _ _ _ _ _ _ _ _ HP4.out _).mono ?_
      rintro e w1 ⟨⟨A3, k3, c3, rfl, -, -⟩, B⟩
      go_wp2_with fail
      exact HK'.out _ _ (HK.out _ _ B ⟨(A3, k3, c3), rfl⟩)
    · intro a wz K hb ht hd hK
      have hbw := Lib.hid (below_tr RB2.out hb); clear hb
      obtain ⟨x20, hx20, hp20⟩ := hd 12 _ rfl (by kernel_rfl)
      obtain ⟨q20, rfl⟩ := hp20
      have es20 : a.tmps.getD 20 undef = _ := getD_of hx20; clear hx20
      obtain ⟨x9, hx9, hp9⟩ := hd 1 _ rfl (by kernel_rfl)
      obtain rfl := hp9
      have es9 : a.tmps.getD 9 undef = _ := getD_of hx9; have gs9 : a.tmps[9]? = some _ := hx9; clear hx9
      clear ht hd
      have HK := Lib.hid hK; clear hK
      refine wpOpP_step (by simp only [List.getElem?_toArray, List.getElem?_cons_succ, List.getElem?_cons_zero]; rfl) (fun K' hK' => ?_)
      have HK' := Lib.hid hK'; clear hK'
      go_simp
      exact HK'.out _ _ (HK.out _ _ below_rf rfl)
    · intro a wz K hb ht hd hK
      have hbw := Lib.hid (below_tr RB2.out hb); clear hb
      obtain ⟨x21, hx21, hp21⟩ := hd 13 _ rfl (by kernel_rfl)
      obtain rfl := hp21
      have es21 : a.tmps.getD 21 undef = _ := getD_of hx21; clear hx21
      obtain ⟨x9, hx9, hp9⟩ := hd 1 _ rfl (by kernel_rfl)
      obtain rfl := hp9
      have es9 : a.tmps.getD 9 undef = _ := getD_of hx9; have gs9 : a.tmps[9]? = some _ := hx9; clear hx9
      clear ht hd
      have HK := Lib.hid hK; clear hK
      refine wpOpP_step (by simp only [List.getElem?_toArray, List.getElem?_cons_succ, List.getElem?_cons_zero]; rfl) (fun K' hK' => ?_)
      have HK' := Lib.hid hK'; clear hK'
      go_simp
      exact HK'.out _ _ (HK.out _ _ below_rf rfl)
    · intro a wz K hb ht hd hK
      have hbw := Lib.hid (below_tr RB2.out hb); clear hb
      obtain ⟨x22, hx22, hp22⟩ := hd 14 _ rfl (by kernel_rfl)
      obtain rfl := hp22
      have es22 : a.tmps.getD 22 undef = _ := getD_of hx22; clear hx22
      obtain ⟨x9, hx9, hp9⟩ := hd 1 _ rfl (by kernel_rfl)
      obtain rfl := hp9
      have es9 : a.tmps.getD 9 undef = _ := getD_of hx9; have gs9 : a.tmps[9]? = some _ := hx9; clear hx9
      clear ht hd
      have HK := Lib.hid hK; clear hK
      refine wpOpP_step (by simp only [List.getElem?_toArray, List.getElem?_cons_succ, List.getElem?_cons_zero]; rfl) (fun K' hK' => ?_)
      have HK' := Lib.hid hK'; clear hK'
      go_simp
      exact HK'.out _ _ (HK.out _ _ below_rf rfl)
    · intro a wz K hb ht hd hK
      have hbw := Lib.hid (below_tr RB2.out hb); clear hb
      obtain ⟨x23, hx23, hp23⟩ := hd 15 _ rfl (by kernel_rfl)
      obtain rfl := hp23
      have es23 : a.tmps.getD 23 undef = _ := getD_of hx23; have et23 := getO_of hx23; clear hx23
      obtain ⟨x9, hx9, hp9⟩ := hd 1 _ rfl (by kernel_rfl)
      obtain rfl := hp9
      have es9 : a.tmps.getD 9 undef = _ := getD_of hx9; have gs9 : a.tmps[9]? = some _ := hx9; have et9 := getO_of hx9; clear hx9
      clear ht hd
      have HK := Lib.hid hK; clear hK
      refine wpOpP_step (by simp only [List.getElem?_toArray, List.getElem?_cons_succ, List.getElem?_cons_zero]; rfl) (fun K' hK' => ?_)
      have HK' := Lib.hid hK'; clear hK'
      go_simp
      exact HK'.out _ _ (HK.out _ _ (below_al below_rf) ⟨_, rfl, Bx.new _ _ _⟩)
    · intro a wz K hb ht hd hK
      have hbw := Lib.hid (below_tr RB2.out hb); clear hb
      obtain ⟨x11, hx11, hp11⟩ := hd 3 _ rfl (by kernel_rfl)
      obtain ⟨q11, rfl, S11⟩ := hp11
      have es11 : a.tmps.getD 11 undef = _ := getD_of hx11; clear hx11
      obtain ⟨x24, hx24, hp24⟩ := hd 16 _ rfl (by kernel_rfl)
      obtain ⟨b24, rfl, S24⟩ := hp24
      have es24 : a.tmps.getD 24 undef = _ := getD_of hx24; clear hx24
      obtain ⟨x9, hx9, hp9⟩ := hd 1 _ rfl (by kernel_rfl)
      obtain rfl := hp9
      have es9 : a.tmps.getD 9 undef = _ := getD_of hx9; have gs9 : a.tmps[9]? = some _ := hx9; clear hx9
      clear ht hd
      have HK := Lib.hid hK; clear hK
      refine wpOpP_step (by simp only [List.getElem?_toArray, List.getElem?_cons_succ, List.getElem?_cons_zero]; rfl) (fun K' hK' => ?_)
      have HK' := Lib.hid hK'; clear hK'
      go_simp
      refine (bytes_Equal_eq q11.1 _ q11.2 2 [0, sg (circ a0_0 a0_1 a0_2 a0_3 a0_4 a0_5 a0_6 a0_7) + 1] _ S11 (bx_by (l := [0, sg (circ a0_0 a0_1 a0_2 a0_3 a0_4 a0_5 a0_6 a0_7) + 1]) S24 (by show 2 ≤ maxLen; decide))).mono ?_
      rintro e w1 ⟨rfl, rfl⟩
      go_wp2_with fail
      exact HK'.out _ _ (HK.out _ _ below_rf rfl)
    · intro a wz K hb ht hd hK
      have hbw := Lib.hid (below_tr RB2.out hb); clear hb
      obtain ⟨x9, hx9, hp9⟩ := hd 1 _ rfl (by kernel_rfl)
      obtain rfl := hp9
      have es9 : a.tmps.getD 9 undef = _ := getD_of hx9; clear hx9
      obtain ⟨x25, hx25, hp25⟩ := hd 17 _ rfl (by kernel_rfl)
      obtain rfl := hp25
      have es25 : a.tmps.getD 25 undef = _ := getD_of hx25; clear hx25
      clear ht hd
      have HK := Lib.hid hK; clear hK
      refine wpOpP_step (by simp only [List.getElem?_toArray, List.getElem?_cons_succ, List.getElem?_cons_zero]; rfl) (fun K' hK' => ?_)
      have HK' := Lib.hid hK'; clear hK'
      go_simp
      exact HK'.out _ _ (HK.out _ _ below_rf rfl)
    · intro a wz K hb ht hd hK
      have hbw := Lib.hid (below_tr RB2.out hb); clear hb
      obtain ⟨x26, hx26, hp26⟩ := hd 18 _ rfl (by kernel_rfl)
      obtain rfl := hp26
      have es26 : a.tmps.getD 26 undef = _ := getD_of hx26; clear hx26
      clear ht hd
      have HK := Lib.hid hK; clear hK
      refine wpOpP_step (by simp only [List.getElem?_toArray, List.getElem?_cons_succ, List.getElem?_cons_zero]; rfl) (fun K' hK' => ?_)
      have HK' := Lib.hid hK'; clear hK'
      go_simp
      exact HK'.out _ _ (HK.out _ _ below_rf rfl)
  intro w3 X hb hv
  simp only [List.foldl_cons, List.foldl_nil, Act.put, List.setIfInBounds_toArray, List.set_cons_zero, List.set_cons_succ, List.toList_toArray, List.drop_succ_cons, List.drop_zero]
  obtain ⟨hv0, hv1, hv2, hv3, hv4, hv5, hv6, hv7, hv8, hv9, hv10, hv11, hv12, hv13, hv14, hv15, hv16, hv17, hv18, hv19, -⟩ := hv
  have hV0 : (fun z_ _ => z_ = .bool true) (X 8) w3 := hv0; clear hv0; have hv0 := hV0; clear hV0; generalize X 8 = X8 at *
  have hV1 : (fun z_ _ => z_ = .bool true) (X 9) w3 := hv1; clear hv1; have hv1 := hV1; clear hV1; generalize X 9 = X9 at *
  have hV2 : (fun z_ _ => z_ = .slice A1 (16 * ((2 : Int) + 2).toNat + 1) c1) (X 10) w3 := hv2; clear hv2; have hv2 := hV2; clear hV2; generalize X 10 = X10 at *
  have hV3 : (fun x w => ∃ q : Option Addr × Nat, x = .slice q.1 2 q.2 ∧ By w q.1 q.2 [0, sg (circ a0_0 a0_1 a0_2 a0_3 a0_4 a0_5 a0_6 a0_7) + 1]) (X 11) w3 := hv3; clear hv3; have hv3 := hV3; clear hV3; generalize X 11 = X11 at *
  have hV4 : (fun z_ _ => z_ = .pointer (some ⟨w.heap.size, 0, none⟩)) (X 12) w3 := hv4; clear hv4; have hv4 := hV4; clear hV4; generalize X 12 = X12 at *
  have hV5 : (fun z_ _ => z_ = .agg #[.int .i64 a0_0, .int .i64 a0_1]) (X 13) w3 := hv5; clear hv5; have hv5 := hV5; clear hV5; generalize X 13 = X13 at *
  have hV6 : (fun z_ _ => z_ = .pointer (some ⟨w.heap.size, 2, none⟩)) (X 14) w3 := hv6; clear hv6; have hv6 := hV6; clear hV6; generalize X 14 = X14 at *
  have hV7 : (fun z_ _ => z_ = .agg #[.int .i64 a0_2, .int .i64 a0_3]) (X 15) w3 := hv7; clear hv7; have hv7 := hV7; clear hV7; generalize X 15 = X15 at *
  have hV8 : (fun z_ _ => z_ = .pointer (some ⟨w.heap.size, 4, none⟩)) (X 16) w3 := hv8; clear hv8; have hv8 := hV8; clear hV8; generalize X 16 = X16 at *
  have hV9 : (fun z_ _ => z_ = .agg #[.int .i64 a0_4, .int .i64 a0_5]) (X 17) w3 := hv9; clear hv9; have hv9 := hV9; clear hV9; generalize X 17 = X17 at *
  have hV10 : (fun z_ _ => z_ = .pointer (some ⟨w.heap.size, 6, none⟩)) (X 18) w3 := hv10; clear hv10; have hv10 := hV10; clear hV10; generalize X 18 = X18 at *
  have hV11 : (fun z_ _ => z_ = .agg #[.int .i64 a0_6, .int .i64 a0_7]) (X 19) w3 := hv11; clear hv11; have hv11 := hV11; clear hV11; generalize X 19 = X19 at *
  have hV12 : (fun x _ => ∃ q : Option Addr × Nat × Nat, x = .agg #[.int .i64 (sg (circ a0_0 a0_1 a0_2 a0_3 a0_4 a0_5 a0_6 a0_7)), .slice q.1 q.2.1 q.2.2]) (X 20) w3 := hv12; clear hv12; have hv12 := hV12; clear hV12; generalize X 20 = X20 at *
  have hV13 : (fun z_ _ => z_ = .int .i64 (sg (circ a0_0 a0_1 a0_2 a0_3 a0_4 a0_5 a0_6 a0_7))) (X 21) w3 := hv13; clear hv13; have hv13 := hV13; clear hV13; generalize X 21 = X21 at *
  have hV14 : (fun z_ _ => z_ = .int .i64 (sg (circ a0_0 a0_1 a0_2 a0_3 a0_4 a0_5 a0_6 a0_7) + 1)) (X 22) w3 := hv14; clear hv14; have hv14 := hV14; clear hV14; generalize X 22 = X22 at *
  have hV15 : (fun z_ _ => z_ = .int .u8 (sg (circ a0_0 a0_1 a0_2 a0_3 a0_4 a0_5 a0_6 a0_7) + 1)) (X 23) w3 := hv15; clear hv15; have hv15 := hV15; clear hV15; generalize X 23 = X23 at *
  have hV16 : (fun x w => ∃ b_ : Nat, x = .slice (some ⟨b_, 0, none⟩) 2 2 ∧ Bx w b_ #[.int .u8 0, .int .u8 (sg (circ a0_0 a0_1 a0_2 a0_3 a0_4 a0_5 a0_6 a0_7) + 1)] 5) (X 24) w3 := hv16; clear hv16; have hv16 := hV16; clear hV16; generalize X 24 = X24 at *
  have hV17 : (fun z_ _ => z_ = .bool true) (X 25) w3 := hv17; clear hv17; have hv17 := hV17; clear hV17; generalize X 25 = X25 at *
  have hV18 : (fun z_ _ => z_ = .bool true) (X 26) w3 := hv18; clear hv18; have hv18 := hV18; clear hV18; generalize X 26 = X26 at *
  have hV19 : (fun z_ _ => z_ = .bool true) (X 2) w3 := hv19; clear hv19; have hv19 := hV19; clear hV19; generalize X 2 = X2 at *
  obtain rfl := hv0
  obtain rfl := hv1
  obtain rfl := hv2
  clear hv3
  obtain rfl := hv4
  obtain rfl := hv5
  obtain rfl := hv6
  obtain rfl := hv7
  obtain rfl := hv8
  obtain rfl := hv9
  obtain rfl := hv10
  obtain rfl := hv11
  clear hv12
  obtain rfl := hv13
  obtain rfl := hv14
  obtain rfl := hv15
  clear hv16
  obtain rfl := hv17
  obtain rfl := hv18
  obtain rfl := hv19
  have RC := Lib.hid (below_tr RB2.out hb); clear hb
  have FT_3 := Lib.hid (FT_2.out.below RC.out (Nat.le_refl _))
  have FF_3 := Lib.hid (FF_2.out.below RC.out (Nat.le_refl _))
  have FA_3 := Lib.hid (FA_2.out.below RC.out (Nat.le_refl _))
  have FY_3 := Lib.hid (FY_2.out.below RC.out (Nat.le_refl _))
  have HB3 := Lib.hid (HB2.out.trans (RC.out.mono HB2.out.size))
  clear HB2 FT_2 FF_2 FA_2 FY_2 RB2
  refine wpListIn_nil ?_
  go_wp2_with fail
  go_ret
  exact ⟨rfl, HB3.out⟩

theorem gTab0 : Tryz.prog.globalNamed "geofence/mask.words" = some 0 := by kernel_rfl
theorem gTabType0 : (Tryz.prog.globals[0]?).map (·.type) = some 154 := by kernel_rfl
theorem cellsT0 : Tryz.prog.cellsOf 154 = 2 := by kernel_rfl
theorem cellsE0 : Tryz.prog.cellsOf 61 = 1 := by kernel_rfl
theorem tableIs0 {W : World} (h : laidMetH Tryz.prog Rows.topCircleRow.laid W) : Lib.TabIs Tryz.prog W "geofence/mask.words" .u64 [9223372036854775808, 18446744073709551615] :=
  Lib.tabIs_of_head (rest := _) gTab0 gTabType0 Tryz.underlying154 Tryz.underlying61 cellsE0 cellsT0 h
theorem table0 {W : World} (h : laidMetH Tryz.prog Rows.topCircleRow.laid W) : TabM W := ⟨(tableIs0 h).cell gTab0 0 (by decide), (tableIs0 h).cell gTab0 1 (by decide)⟩

theorem gTab1 : Tryz.prog.globalNamed "geofence/header.fixed" = some 1 := by kernel_rfl
theorem gTabType1 : (Tryz.prog.globals[1]?).map (·.type) = some 117 := by kernel_rfl
theorem cellsT1 : Tryz.prog.cellsOf 117 = 6 := by kernel_rfl
theorem cellsE1 : Tryz.prog.cellsOf 3 = 1 := by kernel_rfl
theorem tableIs1 {W : World} (h : laidMetH Tryz.prog Rows.topCircleRow.laid W) : Lib.TabIs Tryz.prog W "geofence/header.fixed" .i64 [0, 3, 4, 1, 1, 0] :=
  Lib.tabIs_of_head (rest := _) gTab1 gTabType1 Tryz.underlying117 Tryz.underlying3 cellsE1 cellsT1 (laid_tail h)
theorem table1 {W : World} (h : laidMetH Tryz.prog Rows.topCircleRow.laid W) : TabF W := ⟨(tableIs1 h).cell gTab1 0 (by decide), (tableIs1 h).cell gTab1 1 (by decide), (tableIs1 h).cell gTab1 2 (by decide), (tableIs1 h).cell gTab1 3 (by decide), (tableIs1 h).cell gTab1 4 (by decide), (tableIs1 h).cell gTab1 5 (by decide)⟩

set_option maxRecDepth 100000 in
theorem contract (H : Type) (enc : TypeId × Value → H) (W : World) (base : Nat) (args : Array Value) (ds gs : List (DataW H)) (before : List MemPlace)
    (hval : ∀ (j : Nat) t v, Tryz.f4.params[j]? = some t → args[j]? = some v → Value.okWide Tryz.prog W .any base t v)
    (hW : DataW.Whole enc Tryz.prog Tryz.f4.params.toList Rows.topCircleSpec.vars false W args.toList ds gs before) (hL : laidMetH Tryz.prog Rows.topCircleRow.laid W) :
    Calls Tryz.prog 4 args W fun e W' => ∃ v, e = .returned v ∧ Rows.topCircleSpec.post enc Tryz.prog Tryz.f4 false true false false W args v W' := by
  have hW' := hW
  obtain ⟨p, q, hA0, hV, rfl, hfz, hnd⟩ := hW
  have hA : DataW.TrodAll enc Tryz.prog W 0 (fun _ => true) true Tryz.f4.params.toList args.toList ds p := hA0
  rw [Tryz.params4] at hA hval
  obtain ⟨v0, vs0, d0, ds0, p0, q0, hargs, rfl, rfl, h0, r0⟩ := trodAll_cons hA
  obtain ⟨rfl, rfl, rfl⟩ := trodAll_nil r0
  obtain rfl : args = #[v0] := by cases args; simp_all
  obtain ⟨rfl, rfl⟩ := trodVars_none hV
  have k0 := h0
  have lt0 : ∀ x ∈ p0, x.block < W.heap.size := by obtain ⟨m, hm⟩ := k0; exact DataW.trod_lt m _ _ _ hm
  obtain ⟨a0_0, a0_1, a0_2, a0_3, a0_4, a0_5, a0_6, a0_7, rfl, w0_0, w0_1, w0_2, w0_3, w0_4, w0_5, w0_6, w0_7⟩ := Op.open_pts4 Tryz.underlying38 Tryz.underlying23 rfl rfl rfl rfl Tryz.underlying2 (by kernel_rfl) (by kernel_rfl) (by kernel_rfl) h0
  clear hA0
  refine (walk a0_0 a0_1 a0_2 a0_3 a0_4 a0_5 a0_6 a0_7 w0_0 w0_1 w0_2 w0_3 w0_4 w0_5 w0_6 w0_7 (table0 hL) (table1 hL)).mono fun e W' ⟨he, bel⟩ => ?_
  subst he
  exact ⟨_, rfl, _, _, _, [], _, [], hW', trodAll_mk1 (shut_bool Tryz.underlying4 _), (trodAll_cons_mk (Below.trod laidOut (by kernel_rfl) (of_decide_eq_true (by kernel_rfl)) k0 bel lt0) trodAll_mk0), rfl, bel.frame _, fun h => by cases h⟩

theorem joined : joinedFacts Tryz.prog 4 Tryz.f4 (OpenSpec.ofChange Rows.topCircleSpec).bare Rows.topCircleRow = true := by
  have e1 := enterIs
  have e2 := liftsIs
  have e3 := makeIs
  generalize hP : Tryz.prog = P at *
  unfold joinedFacts
  simp only [Bool.and_eq_true]
  repeat' apply And.intro
  all_goals first
    | with_reducible exact e1
    | (rw [e2]; kernel_rfl)
    | (rw [e3]; kernel_rfl)
    | (subst hP; kernel_rfl)

noncomputable def laidHeap (os : Os) : Array Obj :=
  ((World.holding Tryz.prog os ⟨#[], #[], []⟩).heap.modify 0 (fun
      | .cells _ t frozen => .cells #[.int .u64 9223372036854775808, .int .u64 18446744073709551615] t frozen
      | o => o)).modify 1 (fun
      | .cells _ t frozen => .cells #[.int .i64 0, .int .i64 3, .int .i64 4, .int .i64 1, .int .i64 1, .int .i64 0] t frozen
      | o => o)
noncomputable def laidWorld (os : Os) : World :=
  { World.holding Tryz.prog os ⟨#[], #[], []⟩ with heap := laidHeap os }
theorem laid_met (os : Os) : laidMet Tryz.prog Rows.topCircleRow.laid ((laidWorld os).forCall (fun _ _ => 0) ⟨#[], #[.agg #[.int .i64 0, .int .i64 0, .int .i64 0, .int .i64 0, .int .i64 0, .int .i64 0, .int .i64 0, .int .i64 0]], []⟩).memory :=
  laidMet_of_run' 8 (by kernel_rfl) (by kernel_rfl)
theorem reads (os : Os) {H : Type} (enc : TypeId × Value → H) : ∃ places, DataW.whole enc Tryz.prog ((laidWorld os).forCall (fun _ _ => 0) ⟨#[], #[.agg #[.int .i64 0, .int .i64 0, .int .i64 0, .int .i64 0, .int .i64 0, .int .i64 0, .int .i64 0, .int .i64 0]], []⟩).memory Tryz.f4.params.toList Rows.topCircleSpec.vars false (#[.agg #[.int .i64 0, .int .i64 0, .int .i64 0, .int .i64 0, .int .i64 0, .int .i64 0, .int .i64 0, .int .i64 0]] : Array Value).toList 8 = some ([.agg [.agg [.lit (.int .i64 0), .lit (.int .i64 0)], .agg [.lit (.int .i64 0), .lit (.int .i64 0)], .agg [.lit (.int .i64 0), .lit (.int .i64 0)], .agg [.lit (.int .i64 0), .lit (.int .i64 0)]]], [], places) :=
  ⟨[], by kernel_rfl⟩

set_option maxRecDepth 100000 in
theorem lifted (os : Os) (started : os.Started) (H : Type) (enc : TypeId × Value → H) (F : Stop.Interp) :
    ReturnsInHanded {} Tryz.checked os 4 .any ((OpenSpec.ofChange Rows.topCircleSpec).preRow enc Tryz.prog Tryz.f4 Rows.topCircleRow.domain false Rows.topCircleRow.laid) (((OpenSpec.ofChange Rows.topCircleSpec).at F).post enc Tryz.prog Tryz.f4 false true false false) := by
  obtain ⟨places, hx⟩ := reads os enc
  refine returnsInHanded_of_row (C := Tryz.checked) (s := OpenSpec.ofChange Rows.topCircleSpec) own started (by kernel_rfl) Tryz.func4
    (witness_row_at (enc := enc) (C := Tryz.checked) false (laidWorld os) #[.agg #[.int .i64 0, .int .i64 0, .int .i64 0, .int .i64 0, .int .i64 0, .int .i64 0, .int .i64 0, .int .i64 0]] rfl (by kernel_rfl) (by kernel_rfl) (by kernel_rfl)
      (OpenSpec.preRow_of_cond 8 hx (by kernel_rfl) (fun k hk => by cases hk) (by kernel_rfl) (laid_met os))) ?_
  intro W base args ds gs before hval hW _ _ _ hL _ _
  exact contract H enc W base args ds gs before hval hW hL

theorem said : Rows.TopCircleSaid :=
  OpenClaim.holds_of_cond 4 Tryz.f4 rfl rfl rfl rfl rfl rfl rfl ⟨rfl, rfl, rfl, rfl, rfl⟩ rfl rfl rfl rfl rfl (by kernel_rfl) Tryz.func4 (joined)
    (of_decide_eq_true (by kernel_rfl)) (by unfold Func.isWrapper; first | (rw [if_pos (by decide +kernel)]; kernel_rfl) | (rw [if_neg (by decide +kernel)]; exact ⟨rfl, rfl⟩))
    (fun os started H enc _ F => by rw [OpenClaim.pre_eq_preRow]; exact lifted os started H enc F)

theorem plain (f : FuncId) (fn : Func) (hf : Tryz.pinned.checked.prog.funcNamed "geofence/geofencetop.TopCircle" = some f) (hfn : Tryz.pinned.checked.prog.funcs[f]? = some fn) :
    false = Tryz.pinned.checked.prog.looks [] ∧ ∀ (j : Nat) t, fn.params[j]? = some t → Tryz.pinned.checked.prog.wantsStandIn t = false := by
  obtain rfl : f = 4 := Option.some.inj ((show Tryz.prog.funcNamed "geofence/geofencetop.TopCircle" = some 4 by kernel_rfl).symm.trans hf) |>.symm
  obtain rfl : fn = Tryz.f4 := (Option.some.inj (Tryz.func4.symm.trans hfn)).symm
  refine ⟨by kernel_rfl, fun j t ht => ?_⟩
  rw [Tryz.params4] at ht
  have hm := Array.mem_of_getElem? ht
  simp at hm
  obtain rfl := hm
  exact (show Tryz.prog.wantsStandIn 38 = false by kernel_rfl)

/-- THE CARD -/
theorem card : Rows.TopCircleCardSaid :=
  Claim7.holds_tied_plain_at .later [] _ _ _ _ said (fun _ h => by cases h) (by kernel_rfl) (fun _ h => by cases h) topCircle_row_tie rfl ⟨rfl, rfl⟩ (mainText) rfl plain (by kernel_rfl)
#print axioms card
end Go.Proofs.YtjdiilkljgljkaaGreatDoor.topCircle
