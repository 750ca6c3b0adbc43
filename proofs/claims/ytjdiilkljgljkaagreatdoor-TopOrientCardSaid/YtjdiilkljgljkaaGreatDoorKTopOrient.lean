/- TopOrient: for every input the law returns true, and each argument reads afterwards as it read before; the package variable that the row lists holds what it lists. -/
import Derived.Test.YtjdiilkljgljkaaGreatDoorCards
import Derived.Test.YtjdiilkljgljkaaGreatDoorTie
import Derived.Test.YtjdiilkljgljkaaGreatDoorMf
import Derived.Test.YtjdiilkljgljkaaGreatDoorMa
import Derived.WalkKit
import Derived.ProofKit
import Derived.OpenShut
import Derived.Below
import Derived.Deep.DeepHandedRow
import Derived.Lib.LaidTab
namespace Go.Proofs.YtjdiilkljgljkaaGreatDoor.topOrient
open Go.ChangeShapes Go.WideShapes Go.ChangeAt Go.RowKit Wd
set_option linter.unusedVariables false
set_option linter.unusedSimpArgs false

theorem own : ownKnob Tryz.prog.godebug = none := by kernel_rfl
theorem laidOut : laidOutB Tryz.prog = true := by kernel_rfl

set_option maxRecDepth 100000 in
set_option maxHeartbeats 4000000 in
theorem walk {w : World} (a0 b0 : Int) (w0 : (Lit.int .i64 a0).wf = true) (x0 : (Lit.int .i64 b0).wf = true) (a1 b1 : Int) (w1 : (Lit.int .i64 a1).wf = true) (x1 : (Lit.int .i64 b1).wf = true) (a2 b2 : Int) (w2 : (Lit.int .i64 a2).wf = true) (x2 : (Lit.int .i64 b2).wf = true) (hT : TabM w) (hF : TabF w) :
    Calls Tryz.prog 3 #[.agg #[.int .i64 a0, .int .i64 b0], .agg #[.int .i64 a1, .int .i64 b1], .agg #[.int .i64 a2, .int .i64 b2]] w fun e w' => e = .returned (.bool true) ∧ Below w.heap.size w w' := by
  have HB0 := Lib.hid (Below.refl w.heap.size w)
  have ia0 := isI_of_wf w0
  have ib0 := isI_of_wf x0
  have ia1 := isI_of_wf w1
  have ib1 := isI_of_wf x1
  have ia2 := isI_of_wf w2
  have ib2 := isI_of_wf x2
  have FT := Lib.hid hT; clear hT
  have FF := Lib.hid hF; clear hF
  have HP3 := Lib.hid (show P3 a0 b0 a1 b1 a2 b2 from ⟨ia0, ib0, ia1, ib1, ia2, ib2⟩)
  go_enter Tryz.func3, Tryz.ntmps3
  go_wp2_with fail
  have B : Below w.heap.size w ((((w.alloc (.cells #[.int .i64 a0, .int .i64 b0] 23)).alloc (.cells #[.int .i64 a1, .int .i64 b1] 23)).alloc (.cells #[.int .i64 a2, .int .i64 b2] 23)).alloc (.cells #[.int .i64 a0, .int .i64 b0, .int .i64 a1, .int .i64 b1, .int .i64 a2, .int .i64 b2] 23)) := ((((HB0.out.alloc HB0.out.size _).alloc (HB0.out.alloc HB0.out.size _).size _).alloc ((HB0.out.alloc HB0.out.size _).alloc (HB0.out.alloc HB0.out.size _).size _).size _).alloc (((HB0.out.alloc HB0.out.size _).alloc (HB0.out.alloc HB0.out.size _).size _).alloc ((HB0.out.alloc HB0.out.size _).alloc (HB0.out.alloc HB0.out.size _).size _).size _).size _)
  have C : Below w.heap.size w ((((w.alloc (.cells #[.int .i64 a0, .int .i64 b0] 23)).alloc (.cells #[.int .i64 a1, .int .i64 b1] 23)).alloc (.cells #[.int .i64 a2, .int .i64 b2] 23)).alloc (.cells #[.int .i64 a0, .int .i64 b0, .int .i64 a1, .int .i64 b1, .int .i64 a2, .int .i64 b2] 23)) := (((((Below.refl w.heap.size w).alloc (Nat.le_refl _) _).alloc (by simp; try omega) _).alloc (by simp; try omega) _).alloc (by simp; try omega) _)
  have X0 : Bx ((((w.alloc (.cells #[.int .i64 a0, .int .i64 b0] 23)).alloc (.cells #[.int .i64 a1, .int .i64 b1] 23)).alloc (.cells #[.int .i64 a2, .int .i64 b2] 23)).alloc (.cells #[.int .i64 a0, .int .i64 b0, .int .i64 a1, .int .i64 b1, .int .i64 a2, .int .i64 b2] 23)) (w.heap.size) #[.int .i64 a0, .int .i64 b0] 23 := by simpa using ((((Bx.new w #[.int .i64 a0, .int .i64 b0] 23).alloc _).alloc _).alloc _)
  have X1 : Bx ((((w.alloc (.cells #[.int .i64 a0, .int .i64 b0] 23)).alloc (.cells #[.int .i64 a1, .int .i64 b1] 23)).alloc (.cells #[.int .i64 a2, .int .i64 b2] 23)).alloc (.cells #[.int .i64 a0, .int .i64 b0, .int .i64 a1, .int .i64 b1, .int .i64 a2, .int .i64 b2] 23)) (w.heap.size + 1) #[.int .i64 a1, .int .i64 b1] 23 := by simpa using (((Bx.new (w.alloc (.cells #[.int .i64 a0, .int .i64 b0] 23)) #[.int .i64 a1, .int .i64 b1] 23).alloc _).alloc _)
  have X2 : Bx ((((w.alloc (.cells #[.int .i64 a0, .int .i64 b0] 23)).alloc (.cells #[.int .i64 a1, .int .i64 b1] 23)).alloc (.cells #[.int .i64 a2, .int .i64 b2] 23)).alloc (.cells #[.int .i64 a0, .int .i64 b0, .int .i64 a1, .int .i64 b1, .int .i64 a2, .int .i64 b2] 23)) (w.heap.size + 1 + 1) #[.int .i64 a2, .int .i64 b2] 23 := by simpa using ((Bx.new ((w.alloc (.cells #[.int .i64 a0, .int .i64 b0] 23)).alloc (.cells #[.int .i64 a1, .int .i64 b1] 23)) #[.int .i64 a2, .int .i64 b2] 23).alloc _)
  have X3 : Bx ((((w.alloc (.cells #[.int .i64 a0, .int .i64 b0] 23)).alloc (.cells #[.int .i64 a1, .int .i64 b1] 23)).alloc (.cells #[.int .i64 a2, .int .i64 b2] 23)).alloc (.cells #[.int .i64 a0, .int .i64 b0, .int .i64 a1, .int .i64 b1, .int .i64 a2, .int .i64 b2] 23)) (w.heap.size + 1 + 1 + 1) #[.int .i64 a0, .int .i64 b0, .int .i64 a1, .int .i64 b1, .int .i64 a2, .int .i64 b2] 23 := by simpa using (Bx.new (((w.alloc (.cells #[.int .i64 a0, .int .i64 b0] 23)).alloc (.cells #[.int .i64 a1, .int .i64 b1] 23)).alloc (.cells #[.int .i64 a2, .int .i64 b2] 23)) #[.int .i64 a0, .int .i64 b0, .int .i64 a1, .int .i64 b1, .int .i64 a2, .int .i64 b2] 23)
  have FT_1 := Lib.hid (FT.out.below C (Nat.le_refl _))
  have FF_1 := Lib.hid (FF.out.below C (Nat.le_refl _))
  have HB1 := Lib.hid B
  have FA_1 := Lib.hid X0
  have FB_1 := Lib.hid X1
  have FC_1 := Lib.hid X2
  have FV_1 := Lib.hid X3
  clear B C X0 X1 X2 X3 HB0 FT FF
  generalize ((((w.alloc (.cells #[.int .i64 a0, .int .i64 b0] 23)).alloc (.cells #[.int .i64 a1, .int .i64 b1] 23)).alloc (.cells #[.int .i64 a2, .int .i64 b2] 23)).alloc (.cells #[.int .i64 a0, .int .i64 b0, .int .i64 a1, .int .i64 b1, .int .i64 a2, .int .i64 b2] 23)) = w1 at *
  have HPT := Lib.hid (FV_1.out.pts3 HP3.out)
  skip
  refine (top_request12 1 (by decide) _ 3 _ _ _ HPT.out).mono ?_
  rintro e w2 ⟨⟨A1, c1, rfl, hy⟩, B⟩
  have HB2 := Lib.hid (HB1.out.trans (B.mono HB1.out.size))
  have FT_2 := Lib.hid (FT_1.out.below B (Nat.le_refl _))
  have FF_2 := Lib.hid (FF_1.out.below B (Nat.le_refl _))
  have FA_2 := Lib.hid (FA_1.out.below B (Nat.le_refl _))
  have FB_2 := Lib.hid (FB_1.out.below B (Nat.le_refl _))
  have FC_2 := Lib.hid (FC_1.out.below B (Nat.le_refl _))
  have FV_2 := Lib.hid (HPT.out.below B (Nat.le_refl _))
  have FY_2 := Lib.hid hy
  clear B hy HB1 FT_1 FF_1 FA_1 FB_1 FC_1 HPT
  go_wp2_with fail
  have HX := Lib.hid (show sg (det a0 b0 a1 b1 a2 b2) + 1 = 0 ∨ sg (det a0 b0 a1 b1 a2 b2) + 1 = 1 ∨ sg (det a0 b0 a1 b1 a2 b2) + 1 = 2 from by have := sg_range (det a0 b0 a1 b1 a2 b2); omega)
  have e1 : IntKind.i64.wrap (sg (det a0 b0 a1 b1 a2 b2) + 1) = sg (det a0 b0 a1 b1 a2 b2) + 1 := by have := HX.out; rw [IntKind.wrap_i64]; omega
  have e2 : IntKind.u8.wrap (sg (det a0 b0 a1 b1 a2 b2) + 1) = sg (det a0 b0 a1 b1 a2 b2) + 1 := by have := HX.out; rw [IntKind.wrap_u8]; omega
  have HSI := Lib.hid (show ∀ i, i < 3 → IsI (sel3 a0 a1 a2 i) ∧ IsI (sel3 b0 b1 b2 i) from fun i hi => by match i, hi with | 0, _ => exact ⟨ia0, ib0⟩ | 1, _ => exact ⟨ia1, ib1⟩ | 2, _ => exact ⟨ia2, ib2⟩)
  skip
  refine (wpIn_wide (n := 0)).1 ?_
  refine wpIn_region_any (by kernel_rfl) ?_
  change wpAnyIn _ _ _ _ _ _ _ _ _ (World.drew _)
  have RB2 := Lib.hid (below_drew0 w2)
  refine wpAnyIn_tail WideF.wide (fun a b => Below a.heap.size a b) (fun _ => below_rf) (fun _ _ _ h k => below_tr h k) [⟨0, 15, fun z_ _ => z_ = .bool true⟩, ⟨1, 16, fun z_ _ => z_ = .bool true⟩, ⟨2, 17, fun z_ _ => z_ = .slice A1 (16 * ((1 : Int) + 2).toNat + 1) c1⟩, ⟨3, 18, fun x w => ∃ q : Option Addr × Nat, x = .slice q.1 2 q.2 ∧ By w q.1 q.2 [0, sg (det a0 b0 a1 b1 a2 b2) + 1]⟩, ⟨4, 19, fun z_ _ => z_ = .agg #[.int .i64 a0, .int .i64 b0]⟩, ⟨5, 20, fun z_ _ => z_ = .agg #[.int .i64 a1, .int .i64 b1]⟩, ⟨6, 21, fun z_ _ => z_ = .agg #[.int .i64 a2, .int .i64 b2]⟩, ⟨7, 22, fun z_ _ => z_ = .int .i64 (sg (det a0 b0 a1 b1 a2 b2))⟩, ⟨8, 23, fun z_ _ => z_ = .int .i64 (sg (det a0 b0 a1 b1 a2 b2) + 1)⟩, ⟨9, 24, fun z_ _ => z_ = .int .u8 (sg (det a0 b0 a1 b1 a2 b2) + 1)⟩, ⟨10, 25, fun x w => ∃ b_ : Nat, x = .slice (some ⟨b_, 0, none⟩) 2 2 ∧ Bx w b_ #[.int .u8 0, .int .u8 (sg (det a0 b0 a1 b1 a2 b2) + 1)] 5⟩, ⟨11, 26, fun z_ _ => z_ = .bool true⟩, ⟨12, 27, fun z_ _ => z_ = .bool true⟩, ⟨13, 6, fun z_ _ => z_ = .bool true⟩] 14 (by kernel_rfl) ?_ ?_ ?_
  · refine ⟨?_, ?_, ?_, ?_, ?_, ?_, ?_, ?_, ?_, ?_, ?_, ?_, ?_, ?_, trivial⟩
    all_goals (intro x w w' hb h; first | exact h | (obtain ⟨b_, h1, h2⟩ := h; exact ⟨b_, h1, h2.below hb (Nat.le_refl _)⟩))
  · refine ⟨?_, ?_, ?_, ?_, ?_, ?_, ?_, ?_, ?_, ?_, ?_, ?_, ?_, ?_, trivial⟩
    · intro a wz K hb ht hd hK
      have hbw := Lib.hid (below_tr RB2.out hb); clear hb
      clear ht hd
      have HK := Lib.hid hK; clear hK
      refine wpOpP_step (by simp only [List.getElem?_toArray, List.getElem?_cons_succ, List.getElem?_cons_zero]; rfl) (fun K' hK' => ?_)
      have HK' := Lib.hid hK'; clear hK'
      go_simp
      refine (top_serves _ (FT_2.out.below hbw.out (Nat.le_refl _)) (FF_2.out.below hbw.out (Nat.le_refl _))).mono ?_
      rintro e w1 ⟨rfl, B⟩
      go_wp2_with fail
      exact HK'.out _ _ (HK.out _ _ B rfl)
    · intro a wz K hb ht hd hK
      have hbw := Lib.hid (below_tr RB2.out hb); clear hb
      obtain ⟨x15, hx15, hp15⟩ := hd 0 _ rfl (by kernel_rfl)
      obtain rfl := hp15
      have es15 : a.tmps.getD 15 undef = _ := getD_of hx15; clear hx15
      clear ht hd
      have HK := Lib.hid hK; clear hK
      refine wpOpP_step (by simp only [List.getElem?_toArray, List.getElem?_cons_succ, List.getElem?_cons_zero]; rfl) (fun K' hK' => ?_)
      have HK' := Lib.hid hK'; clear hK'
      go_simp
      exact HK'.out _ _ (HK.out _ _ below_rf rfl)
    · intro a wz K hb ht hd hK
      have hbw := Lib.hid (below_tr RB2.out hb); clear hb
      have hx7 := (ht 7 rfl).trans rfl
      have es7 : a.tmps.getD 7 undef = _ := getD_of hx7; clear hx7
      obtain ⟨x16, hx16, hp16⟩ := hd 1 _ rfl (by kernel_rfl)
      obtain rfl := hp16
      have es16 : a.tmps.getD 16 undef = _ := getD_of hx16; have gs16 : a.tmps[16]? = some _ := hx16; clear hx16
      clear ht hd
      have HK := Lib.hid hK; clear hK
      refine wpOpP_step (by simp only [List.getElem?_toArray, List.getElem?_cons_succ, List.getElem?_cons_zero]; rfl) (fun K' hK' => ?_)
      have HK' := Lib.hid hK'; clear hK'
      go_simp
      exact HK'.out _ _ (HK.out _ _ below_rf rfl)
    · intro a wz K hb ht hd hK
      have hbw := Lib.hid (below_tr RB2.out hb); clear hb
      obtain ⟨x17, hx17, hp17⟩ := hd 2 _ rfl (by kernel_rfl)
      obtain rfl := hp17
      have es17 : a.tmps.getD 17 undef = _ := getD_of hx17; clear hx17
      obtain ⟨x16, hx16, hp16⟩ := hd 1 _ rfl (by kernel_rfl)
      obtain rfl := hp16
      have es16 : a.tmps.getD 16 undef = _ := getD_of hx16; have gs16 : a.tmps[16]? = some _ := hx16; clear hx16
      clear ht hd
      have HK := Lib.hid hK; clear hK
      refine wpOpP_step (by simp only [List.getElem?_toArray, List.getElem?_cons_succ, List.getElem?_cons_zero]; rfl) (fun K' hK' => ?_)
      have HK' := Lib.hid hK'; clear hK'
      go_simp
      refine (serve_Serve1 A1 c1 _ _ _ (FT_2.out.below hbw.out (Nat.le_refl _)) (FF_2.out.below hbw.out (Nat.le_refl _)) (HSI.out) (FY_2.out.below hbw.out (Nat.le_refl _))).mono ?_
      rintro e w1 ⟨⟨A2, c2, rfl, hy2⟩, B⟩
      go_wp2_with fail
      exact HK'.out _ _ (HK.out _ _ B ⟨(A2, c2), rfl, hy2⟩)
    · intro a wz K hb ht hd hK
      have hbw := Lib.hid (below_tr RB2.out hb); clear hb
      have hx3 := (ht 3 rfl).trans rfl
      have es3 : a.tmps.getD 3 undef = _ := getD_of hx3; clear hx3
      obtain ⟨x16, hx16, hp16⟩ := hd 1 _ rfl (by kernel_rfl)
      obtain rfl := hp16
      have es16 : a.tmps.getD 16 undef = _ := getD_of hx16; have gs16 : a.tmps[16]? = some _ := hx16; clear hx16
      clear ht hd
      have zc0 := (FA_2.out.below hbw.out (Nat.le_refl _)).cell 0 (v := .int .i64 a0) rfl
      have zc1 := (FA_2.out.below hbw.out (Nat.le_refl _)).cell 1 (v := .int .i64 b0) rfl
      have HK := Lib.hid hK; clear hK
      refine wpOpP_step (by simp only [List.getElem?_toArray, List.getElem?_cons_succ, List.getElem?_cons_zero]; rfl) (fun K' hK' => ?_)
      have HK' := Lib.hid hK'; clear hK'
      go_simp
      exact HK'.out _ _ (HK.out _ _ below_rf rfl)
    · intro a wz K hb ht hd hK
      have hbw := Lib.hid (below_tr RB2.out hb); clear hb
      have hx4 := (ht 4 rfl).trans rfl
      have es4 : a.tmps.getD 4 undef = _ := getD_of hx4; clear hx4
      obtain ⟨x16, hx16, hp16⟩ := hd 1 _ rfl (by kernel_rfl)
      obtain rfl := hp16
      have es16 : a.tmps.getD 16 undef = _ := getD_of hx16; have gs16 : a.tmps[16]? = some _ := hx16; clear hx16
      clear ht hd
      have zc0 := (FB_2.out.below hbw.out (Nat.le_refl _)).cell 0 (v := .int .i64 a1) rfl
      have zc1 := (FB_2.out.below hbw.out (Nat.le_refl _)).cell 1 (v := .int .i64 b1) rfl
      have HK := Lib.hid hK; clear hK
      refine wpOpP_step (by simp only [List.getElem?_toArray, List.getElem?_cons_succ, List.getElem?_cons_zero]; rfl) (fun K' hK' => ?_)
      have HK' := Lib.hid hK'; clear hK'
      go_simp
      exact HK'.out _ _ (HK.out _ _ below_rf rfl)
    · intro a wz K hb ht hd hK
      have hbw := Lib.hid (below_tr RB2.out hb); clear hb
      have hx5 := (ht 5 rfl).trans rfl
      have es5 : a.tmps.getD 5 undef = _ := getD_of hx5; clear hx5
      obtain ⟨x16, hx16, hp16⟩ := hd 1 _ rfl (by kernel_rfl)
      obtain rfl := hp16
      have es16 : a.tmps.getD 16 undef = _ := getD_of hx16; have gs16 : a.tmps[16]? = some _ := hx16; clear hx16
      clear ht hd
      have zc0 := (FC_2.out.below hbw.out (Nat.le_refl _)).cell 0 (v := .int .i64 a2) rfl
      have zc1 := (FC_2.out.below hbw.out (Nat.le_refl _)).cell 1 (v := .int .i64 b2) rfl
      have HK := Lib.hid hK; clear hK
      refine wpOpP_step (by simp only [List.getElem?_toArray, List.getElem?_cons_succ, List.getElem?_cons_zero]; rfl) (fun K' hK' => ?_)
      have HK' := Lib.hid hK'; clear hK'
      go_simp
      exact HK'.out _ _ (HK.out _ _ below_rf rfl)
    · intro a wz K hb ht hd hK
      have hbw := Lib.hid (below_tr RB2.out hb); clear hb
      obtain ⟨x19, hx19, hp19⟩ := hd 4 _ rfl (by kernel_rfl)
      obtain rfl := hp19
      have es19 : a.tmps.getD 19 undef = _ := getD_of hx19; clear hx19
      obtain ⟨x20, hx20, hp20⟩ := hd 5 _ rfl (by kernel_rfl)
      obtain rfl := hp20
      have es20 : a.tmps.getD 20 undef = _ := getD_of hx20; clear hx20
      obtain ⟨x21, hx21, hp21⟩ := hd 6 _ rfl (by kernel_rfl)
      obtain rfl := hp21
      have es21 : a.tmps.getD 21 undef = _ := getD_of hx21; clear hx21
      obtain ⟨x16, hx16, hp16⟩ := hd 1 _ rfl (by kernel_rfl)
      obtain rfl := hp16
      have es16 : a.tmps.getD 16 undef = _ := getD_of hx16; have gs16 : a.tmps[16]? = some _ := hx16; clear hx16
      clear ht hd
      have HK := Lib.hid hK; clear hK
      refine wpOpP_step (by simp only [List.getElem?_toArray, List.getElem?_cons_succ, List.getElem?_cons_zero]; rfl) (fun K' hK' => ?_)
      have HK' := Lib.hid hK'; clear hK'
      go_simp
      refine (ref6_Sign _ _ _ _ _ _ HP3.out _).mono ?_
      rintro e w1 ⟨rfl, B⟩
      go_wp2_with fail
      exact HK'.out _ _ (HK.out _ _ B rfl)
    · intro a wz K hb ht hd hK
      have hbw := Lib.hid (below_tr RB2.out hb); clear hb
      obtain ⟨x22, hx22, hp22⟩ := hd 7 _ rfl (by kernel_rfl)
      obtain rfl := hp22
      have es22 : a.tmps.getD 22 undef = _ := getD_of hx22; clear hx22
      obtain ⟨x16, hx16, hp16⟩ := hd 1 _ rfl (by kernel_rfl)
      obtain rfl := hp16
      have es16 : a.tmps.getD 16 undef = _ := getD_of hx16; have gs16 : a.tmps[16]? = some _ := hx16; clear hx16
      clear ht hd
      have HK := Lib.hid hK; clear hK
      refine wpOpP_step (by simp only [List.getElem?_toArray, List.getElem?_cons_succ, List.getElem?_cons_zero]; rfl) (fun K' hK' => ?_)
      have HK' := Lib.hid hK'; clear hK'
      go_simp
      exact HK'.out _ _ (HK.out _ _ below_rf rfl)
    · intro a wz K hb ht hd hK
      have hbw := Lib.hid (below_tr RB2.out hb); clear hb
      obtain ⟨x23, hx23, hp23⟩ := hd 8 _ rfl (by kernel_rfl)
      obtain rfl := hp23
      have es23 : a.tmps.getD 23 undef = _ := getD_of hx23; clear hx23
      obtain ⟨x16, hx16, hp16⟩ := hd 1 _ rfl (by kernel_rfl)
      obtain rfl := hp16
      have es16 : a.tmps.getD 16 undef = _ := getD_of hx16; have gs16 : a.tmps[16]? = some _ := hx16; clear hx16
      clear ht hd
      have HK := Lib.hid hK; clear hK
      refine wpOpP_step (by simp only [List.getElem?_toArray, List.getElem?_cons_succ, List.getElem?_cons_zero]; rfl) (fun K' hK' => ?_)
      have HK' := Lib.hid hK'; clear hK'
      go_simp
      exact HK'.out _ _ (HK.out _ _ below_rf rfl)
    · intro a wz K hb ht hd hK
      have hbw := Lib.hid (below_tr RB2.out hb); clear hb
      obtain ⟨x24, hx24, hp24⟩ := hd 9 _ rfl (by kernel_rfl)
      obtain rfl := hp24
      have es24 : a.tmps.getD 24 undef = _ := getD_of hx24; have et24 := getO_of hx24; clear hx24
      obtain ⟨x16, hx16, hp16⟩ := hd 1 _ rfl (by kernel_rfl)
      obtain rfl := hp16
      have es16 : a.tmps.getD 16 undef = _ := getD_of hx16; have gs16 : a.tmps[16]? = some _ := hx16; have et16 := getO_of hx16; clear hx16
      clear ht hd
      have HK := Lib.hid hK; clear hK
      refine wpOpP_step (by simp only [List.getElem?_toArray, List.getElem?_cons_succ, List.getElem?_cons_zero]; rfl) (fun K' hK' => ?_)
      have HK' := Lib.hid hK'; clear hK'
      go_simp
      exact HK'.out _ _ (HK.out _ _ (below_al below_rf) ⟨_, rfl, Bx.new _ _ _⟩)
    · intro a wz K hb ht hd hK
      have hbw := Lib.hid (below_tr RB2.out hb); clear hb
      obtain ⟨x18, hx18, hp18⟩ := hd 3 _ rfl (by kernel_rfl)
      obtain ⟨q18, rfl, S18⟩ := hp18
      have es18 : a.tmps.getD 18 undef = _ := getD_of hx18; clear hx18
      obtain ⟨x25, hx25, hp25⟩ := hd 10 _ rfl (by kernel_rfl)
      obtain ⟨b25, rfl, S25⟩ := hp25
      have es25 : a.tmps.getD 25 undef = _ := getD_of hx25; clear hx25
      obtain ⟨x16, hx16, hp16⟩ := hd 1 _ rfl (by kernel_rfl)
      obtain rfl := hp16
      have es16 : a.tmps.getD 16 undef = _ := getD_of hx16; have gs16 : a.tmps[16]? = some _ := hx16; clear hx16
      clear ht hd
      have HK := Lib.hid hK; clear hK
      refine wpOpP_step (by simp only [List.getElem?_toArray, List.getElem?_cons_succ, List.getElem?_cons_zero]; rfl) (fun K' hK' => ?_)
      have HK' := Lib.hid hK'; clear hK'
      go_simp
      refine (bytes_Equal_eq q18.1 _ q18.2 2 [0, sg (det a0 b0 a1 b1 a2 b2) + 1] _ S18 (bx_by (l := [0, sg (det a0 b0 a1 b1 a2 b2) + 1]) S25 (by show 2 ≤ maxLen; decide))).mono ?_
      rintro e w1 ⟨rfl, rfl⟩
      go_wp2_with fail
      exact HK'.out _ _ (HK.out _ _ below_rf rfl)
    · intro a wz K hb ht hd hK
      have hbw := Lib.hid (below_tr RB2.out hb); clear hb
      obtain ⟨x16, hx16, hp16⟩ := hd 1 _ rfl (by kernel_rfl)
      obtain rfl := hp16
      have es16 : a.tmps.getD 16 undef = _ := getD_of hx16; clear hx16
      obtain ⟨x26, hx26, hp26⟩ := hd 11 _ rfl (by kernel_rfl)
      obtain rfl := hp26
      have es26 : a.tmps.getD 26 undef = _ := getD_of hx26; clear hx26
      clear ht hd
      have HK := Lib.hid hK; clear hK
      refine wpOpP_step (by simp only [List.getElem?_toArray, List.getElem?_cons_succ, List.getElem?_cons_zero]; rfl) (fun K' hK' => ?_)
      have HK' := Lib.hid hK'; clear hK'
      go_simp
      exact HK'.out _ _ (HK.out _ _ below_rf rfl)
    · intro a wz K hb ht hd hK
      have hbw := Lib.hid (below_tr RB2.out hb); clear hb
      obtain ⟨x27, hx27, hp27⟩ := hd 12 _ rfl (by kernel_rfl)
      obtain rfl := hp27
      have es27 : a.tmps.getD 27 undef = _ := getD_of hx27; clear hx27
      clear ht hd
      have HK := Lib.hid hK; clear hK
      refine wpOpP_step (by simp only [List.getElem?_toArray, List.getElem?_cons_succ, List.getElem?_cons_zero]; rfl) (fun K' hK' => ?_)
      have HK' := Lib.hid hK'; clear hK'
      go_simp
      exact HK'.out _ _ (HK.out _ _ below_rf rfl)
  intro w3 X hb hv
  simp only [List.foldl_cons, List.foldl_nil, Act.put, List.setIfInBounds_toArray, List.set_cons_zero, List.set_cons_succ, List.toList_toArray, List.drop_succ_cons, List.drop_zero]
  obtain ⟨hv0, hv1, hv2, hv3, hv4, hv5, hv6, hv7, hv8, hv9, hv10, hv11, hv12, hv13, -⟩ := hv
  have hV0 : (fun z_ _ => z_ = .bool true) (X 15) w3 := hv0; clear hv0; have hv0 := hV0; clear hV0; generalize X 15 = X15 at *
  have hV1 : (fun z_ _ => z_ = .bool true) (X 16) w3 := hv1; clear hv1; have hv1 := hV1; clear hV1; generalize X 16 = X16 at *
  have hV2 : (fun z_ _ => z_ = .slice A1 (16 * ((1 : Int) + 2).toNat + 1) c1) (X 17) w3 := hv2; clear hv2; have hv2 := hV2; clear hV2; generalize X 17 = X17 at *
  have hV3 : (fun x w => ∃ q : Option Addr × Nat, x = .slice q.1 2 q.2 ∧ By w q.1 q.2 [0, sg (det a0 b0 a1 b1 a2 b2) + 1]) (X 18) w3 := hv3; clear hv3; have hv3 := hV3; clear hV3; generalize X 18 = X18 at *
  have hV4 : (fun z_ _ => z_ = .agg #[.int .i64 a0, .int .i64 b0]) (X 19) w3 := hv4; clear hv4; have hv4 := hV4; clear hV4; generalize X 19 = X19 at *
  have hV5 : (fun z_ _ => z_ = .agg #[.int .i64 a1, .int .i64 b1]) (X 20) w3 := hv5; clear hv5; have hv5 := hV5; clear hV5; generalize X 20 = X20 at *
  have hV6 : (fun z_ _ => z_ = .agg #[.int .i64 a2, .int .i64 b2]) (X 21) w3 := hv6; clear hv6; have hv6 := hV6; clear hV6; generalize X 21 = X21 at *
  have hV7 : (fun z_ _ => z_ = .int .i64 (sg (det a0 b0 a1 b1 a2 b2))) (X 22) w3 := hv7; clear hv7; have hv7 := hV7; clear hV7; generalize X 22 = X22 at *
  have hV8 : (fun z_ _ => z_ = .int .i64 (sg (det a0 b0 a1 b1 a2 b2) + 1)) (X 23) w3 := hv8; clear hv8; have hv8 := hV8; clear hV8; generalize X 23 = X23 at *
  have hV9 : (fun z_ _ => z_ = .int .u8 (sg (det a0 b0 a1 b1 a2 b2) + 1)) (X 24) w3 := hv9; clear hv9; have hv9 := hV9; clear hV9; generalize X 24 = X24 at *
  have hV10 : (fun x w => ∃ b_ : Nat, x = .slice (some ⟨b_, 0, none⟩) 2 2 ∧ Bx w b_ #[.int .u8 0, .int .u8 (sg (det a0 b0 a1 b1 a2 b2) + 1)] 5) (X 25) w3 := hv10; clear hv10; have hv10 := hV10; clear hV10; generalize X 25 = X25 at *
  have hV11 : (fun z_ _ => z_ = .bool true) (X 26) w3 := hv11; clear hv11; have hv11 := hV11; clear hV11; generalize X 26 = X26 at *
  have hV12 : (fun z_ _ => z_ = .bool true) (X 27) w3 := hv12; clear hv12; have hv12 := hV12; clear hV12; generalize X 27 = X27 at *
  have hV13 : (fun z_ _ => z_ = .bool true) (X 6) w3 := hv13; clear hv13; have hv13 := hV13; clear hV13; generalize X 6 = X6 at *
  obtain rfl := hv0
  obtain rfl := hv1
  obtain rfl := hv2
  clear hv3
  obtain rfl := hv4
  obtain rfl := hv5
  obtain rfl := hv6
  obtain rfl := hv7
  obtain rfl := hv8
  obtain rfl := hv9
  clear hv10
  obtain rfl := hv11
  obtain rfl := hv12
  obtain rfl := hv13
  have RC := Lib.hid (below_tr RB2.out hb); clear hb
  have FT_3 := Lib.hid (FT_2.out.below RC.out (Nat.le_refl _))
  have FF_3 := Lib.hid (FF_2.out.below RC.out (Nat.le_refl _))
  have FA_3 := Lib.hid (FA_2.out.below RC.out (Nat.le_refl _))
  have FB_3 := Lib.hid (FB_2.out.below RC.out (Nat.le_refl _))
  have FC_3 := Lib.hid (FC_2.out.below RC.out (Nat.le_refl _))
  have FY_3 := Lib.hid (FY_2.out.below RC.out (Nat.le_refl _))
  have HB3 := Lib.hid (HB2.out.trans (RC.out.mono HB2.out.size))
  clear HB2 FT_2 FF_2 FA_2 FB_2 FC_2 FY_2 RB2
  refine wpListIn_nil ?_
  go_wp2_with fail
  go_ret
  exact ⟨rfl, HB3.out⟩

theorem gTab0 : Tryz.prog.globalNamed "geofence/mask.words" = some 0 := by kernel_rfl
theorem gTabType0 : (Tryz.prog.globals[0]?).map (·.type) = some 154 := by kernel_rfl
theorem cellsT0 : Tryz.prog.cellsOf 154 = 2 := by kernel_rfl
theorem cellsE0 : Tryz.prog.cellsOf 61 = 1 := by kernel_rfl
theorem tableIs0 {W : World} (h : laidMetH Tryz.prog Rows.topOrientRow.laid W) : Lib.TabIs Tryz.prog W "geofence/mask.words" .u64 [9223372036854775808, 18446744073709551615] :=
  Lib.tabIs_of_head (rest := _) gTab0 gTabType0 Tryz.underlying154 Tryz.underlying61 cellsE0 cellsT0 h
theorem table0 {W : World} (h : laidMetH Tryz.prog Rows.topOrientRow.laid W) : TabM W := ⟨(tableIs0 h).cell gTab0 0 (by decide), (tableIs0 h).cell gTab0 1 (by decide)⟩

theorem gTab1 : Tryz.prog.globalNamed "geofence/header.fixed" = some 1 := by kernel_rfl
theorem gTabType1 : (Tryz.prog.globals[1]?).map (·.type) = some 117 := by kernel_rfl
theorem cellsT1 : Tryz.prog.cellsOf 117 = 6 := by kernel_rfl
theorem cellsE1 : Tryz.prog.cellsOf 3 = 1 := by kernel_rfl
theorem tableIs1 {W : World} (h : laidMetH Tryz.prog Rows.topOrientRow.laid W) : Lib.TabIs Tryz.prog W "geofence/header.fixed" .i64 [0, 3, 4, 1, 1, 0] :=
  Lib.tabIs_of_head (rest := _) gTab1 gTabType1 Tryz.underlying117 Tryz.underlying3 cellsE1 cellsT1 (laid_tail h)
theorem table1 {W : World} (h : laidMetH Tryz.prog Rows.topOrientRow.laid W) : TabF W := ⟨(tableIs1 h).cell gTab1 0 (by decide), (tableIs1 h).cell gTab1 1 (by decide), (tableIs1 h).cell gTab1 2 (by decide), (tableIs1 h).cell gTab1 3 (by decide), (tableIs1 h).cell gTab1 4 (by decide), (tableIs1 h).cell gTab1 5 (by decide)⟩

set_option maxRecDepth 100000 in
theorem contract (H : Type) (enc : TypeId × Value → H) (W : World) (base : Nat) (args : Array Value) (ds gs : List (DataW H)) (before : List MemPlace)
    (hval : ∀ (j : Nat) t v, Tryz.f3.params[j]? = some t → args[j]? = some v → Value.okWide Tryz.prog W .any base t v)
    (hW : DataW.Whole enc Tryz.prog Tryz.f3.params.toList Rows.topOrientSpec.vars false W args.toList ds gs before) (hL : laidMetH Tryz.prog Rows.topOrientRow.laid W) :
    Calls Tryz.prog 3 args W fun e W' => ∃ v, e = .returned v ∧ Rows.topOrientSpec.post enc Tryz.prog Tryz.f3 false true false false W args v W' := by
  have hW' := hW
  obtain ⟨p, q, hA0, hV, rfl, hfz, hnd⟩ := hW
  have hA : DataW.TrodAll enc Tryz.prog W 0 (fun _ => true) true Tryz.f3.params.toList args.toList ds p := hA0
  rw [Tryz.params3] at hA hval
  obtain ⟨v0, vs0, d0, ds0, p0, q0, hargs, rfl, rfl, h0, r0⟩ := trodAll_cons hA
  obtain ⟨v1, vs1, d1, ds1, p1, q1, rfl, rfl, rfl, h1, r1⟩ := trodAll_cons r0
  obtain ⟨v2, vs2, d2, ds2, p2, q2, rfl, rfl, rfl, h2, r2⟩ := trodAll_cons r1
  obtain ⟨rfl, rfl, rfl⟩ := trodAll_nil r2
  obtain rfl : args = #[v0, v1, v2] := by cases args; simp_all
  obtain ⟨rfl, rfl⟩ := trodVars_none hV
  have k0 := h0
  have lt0 : ∀ x ∈ p0, x.block < W.heap.size := by obtain ⟨m, hm⟩ := k0; exact DataW.trod_lt m _ _ _ hm
  have k1 := h1
  have lt1 : ∀ x ∈ p1, x.block < W.heap.size := by obtain ⟨m, hm⟩ := k1; exact DataW.trod_lt m _ _ _ hm
  have k2 := h2
  have lt2 : ∀ x ∈ p2, x.block < W.heap.size := by obtain ⟨m, hm⟩ := k2; exact DataW.trod_lt m _ _ _ hm
  obtain ⟨a0, b0, rfl, w0, x0⟩ := Op.open_pt Tryz.underlying23 rfl rfl rfl rfl Tryz.underlying2 (by kernel_rfl) (by kernel_rfl) h0
  obtain ⟨a1, b1, rfl, w1, x1⟩ := Op.open_pt Tryz.underlying23 rfl rfl rfl rfl Tryz.underlying2 (by kernel_rfl) (by kernel_rfl) h1
  obtain ⟨a2, b2, rfl, w2, x2⟩ := Op.open_pt Tryz.underlying23 rfl rfl rfl rfl Tryz.underlying2 (by kernel_rfl) (by kernel_rfl) h2
  clear hA0
  refine (walk a0 b0 w0 x0 a1 b1 w1 x1 a2 b2 w2 x2 (table0 hL) (table1 hL)).mono fun e W' ⟨he, bel⟩ => ?_
  subst he
  exact ⟨_, rfl, _, _, _, [], _, [], hW', trodAll_mk1 (shut_bool Tryz.underlying4 _), (trodAll_cons_mk (Below.trod laidOut (by kernel_rfl) (of_decide_eq_true (by kernel_rfl)) k0 bel lt0) (trodAll_cons_mk (Below.trod laidOut (by kernel_rfl) (of_decide_eq_true (by kernel_rfl)) k1 bel lt1) (trodAll_cons_mk (Below.trod laidOut (by kernel_rfl) (of_decide_eq_true (by kernel_rfl)) k2 bel lt2) trodAll_mk0))), rfl, bel.frame _, fun h => by cases h⟩

theorem joined : joinedFacts Tryz.prog 3 Tryz.f3 (OpenSpec.ofChange Rows.topOrientSpec).bare Rows.topOrientRow = true := by
  have e1 := enterIs
  have e2 := liftsIs
  have e3 := makeIs
  generalize hP : Tryz.prog = P at *
  unfold joinedFacts
  simp only [Bool.and_eq_true]
  repeat' apply And.intro
  all_goals first
    | with_reducible exact e1
    | (rw [e2]; kernel_rfl)
    | (rw [e3]; kernel_rfl)
    | (subst hP; kernel_rfl)

noncomputable def laidHeap (os : Os) : Array Obj :=
  ((World.holding Tryz.prog os ⟨#[], #[], []⟩).heap.modify 0 (fun
      | .cells _ t frozen => .cells #[.int .u64 9223372036854775808, .int .u64 18446744073709551615] t frozen
      | o => o)).modify 1 (fun
      | .cells _ t frozen => .cells #[.int .i64 0, .int .i64 3, .int .i64 4, .int .i64 1, .int .i64 1, .int .i64 0] t frozen
      | o => o)
noncomputable def laidWorld (os : Os) : World :=
  { World.holding Tryz.prog os ⟨#[], #[], []⟩ with heap := laidHeap os }
theorem laid_met (os : Os) : laidMet Tryz.prog Rows.topOrientRow.laid ((laidWorld os).forCall (fun _ _ => 0) ⟨#[], #[.agg #[.int .i64 0, .int .i64 0], .agg #[.int .i64 0, .int .i64 0], .agg #[.int .i64 0, .int .i64 0]], []⟩).memory :=
  laidMet_of_run' 8 (by kernel_rfl) (by kernel_rfl)
theorem reads (os : Os) {H : Type} (enc : TypeId × Value → H) : ∃ places, DataW.whole enc Tryz.prog ((laidWorld os).forCall (fun _ _ => 0) ⟨#[], #[.agg #[.int .i64 0, .int .i64 0], .agg #[.int .i64 0, .int .i64 0], .agg #[.int .i64 0, .int .i64 0]], []⟩).memory Tryz.f3.params.toList Rows.topOrientSpec.vars false (#[.agg #[.int .i64 0, .int .i64 0], .agg #[.int .i64 0, .int .i64 0], .agg #[.int .i64 0, .int .i64 0]] : Array Value).toList 8 = some ([.agg [.lit (.int .i64 0), .lit (.int .i64 0)], .agg [.lit (.int .i64 0), .lit (.int .i64 0)], .agg [.lit (.int .i64 0), .lit (.int .i64 0)]], [], places) :=
  ⟨[], by kernel_rfl⟩

set_option maxRecDepth 100000 in
theorem lifted (os : Os) (started : os.Started) (H : Type) (enc : TypeId × Value → H) (F : Stop.Interp) :
    ReturnsInHanded {} Tryz.checked os 3 .any ((OpenSpec.ofChange Rows.topOrientSpec).preRow enc Tryz.prog Tryz.f3 Rows.topOrientRow.domain false Rows.topOrientRow.laid) (((OpenSpec.ofChange Rows.topOrientSpec).at F).post enc Tryz.prog Tryz.f3 false true false false) := by
  obtain ⟨places, hx⟩ := reads os enc
  refine returnsInHanded_of_row (C := Tryz.checked) (s := OpenSpec.ofChange Rows.topOrientSpec) own started (by kernel_rfl) Tryz.func3
    (witness_row_at (enc := enc) (C := Tryz.checked) false (laidWorld os) #[.agg #[.int .i64 0, .int .i64 0], .agg #[.int .i64 0, .int .i64 0], .agg #[.int .i64 0, .int .i64 0]] rfl (by kernel_rfl) (by kernel_rfl) (by kernel_rfl)
      (OpenSpec.preRow_of_cond 8 hx (by kernel_rfl) (fun k hk => by cases hk) (by kernel_rfl) (laid_met os))) ?_
  intro W base args ds gs before hval hW _ _ _ hL _ _
  exact contract H enc W base args ds gs before hval hW hL

theorem said : Rows.TopOrientSaid :=
  OpenClaim.holds_of_cond 3 Tryz.f3 rfl rfl rfl rfl rfl rfl rfl ⟨rfl, rfl, rfl, rfl, rfl⟩ rfl rfl rfl rfl rfl (by kernel_rfl) Tryz.func3 (joined)
    (of_decide_eq_true (by kernel_rfl)) (by unfold Func.isWrapper; first | (rw [if_pos (by decide +kernel)]; kernel_rfl) | (rw [if_neg (by decide +kernel)]; exact ⟨rfl, rfl⟩))
    (fun os started H enc _ F => by rw [OpenClaim.pre_eq_preRow]; exact lifted os started H enc F)

theorem plain (f : FuncId) (fn : Func) (hf : Tryz.pinned.checked.prog.funcNamed "geofence/geofencetop.TopOrient" = some f) (hfn : Tryz.pinned.checked.prog.funcs[f]? = some fn) :
    false = Tryz.pinned.checked.prog.looks [] ∧ ∀ (j : Nat) t, fn.params[j]? = some t → Tryz.pinned.checked.prog.wantsStandIn t = false := by
  obtain rfl : f = 3 := Option.some.inj ((show Tryz.prog.funcNamed "geofence/geofencetop.TopOrient" = some 3 by kernel_rfl).symm.trans hf) |>.symm
  obtain rfl : fn = Tryz.f3 := (Option.some.inj (Tryz.func3.symm.trans hfn)).symm
  refine ⟨by kernel_rfl, fun j t ht => ?_⟩
  rw [Tryz.params3] at ht
  have hm := Array.mem_of_getElem? ht
  simp at hm
  obtain rfl := hm
  exact (show Tryz.prog.wantsStandIn 23 = false by kernel_rfl)

/-- THE CARD -/
theorem card : Rows.TopOrientCardSaid :=
  Claim7.holds_tied_plain_at .later [] _ _ _ _ said (fun _ h => by cases h) (by kernel_rfl) (fun _ h => by cases h) topOrient_row_tie rfl ⟨rfl, rfl⟩ (mainText) rfl plain (by kernel_rfl)
#print axioms card
end Go.Proofs.YtjdiilkljgljkaaGreatDoor.topOrient
