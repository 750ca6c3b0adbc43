/- TopSmall: for every input the law returns true, and each argument reads afterwards as it read before; the package variable that the row lists holds what it lists. -/
import Derived.Test.YtjdiilkljgljkaaGreatDoorCards
import Derived.Test.YtjdiilkljgljkaaGreatDoorTie
import Derived.Test.YtjdiilkljgljkaaGreatDoorMf
import Derived.Test.YtjdiilkljgljkaaGreatDoorMa
import Derived.Test.YtjdiilkljgljkaaGreatDoorMg
import Derived.WalkKit
import Derived.ProofKit
import Derived.OpenShut
import Derived.Below
import Derived.Deep.DeepHandedRow
import Derived.Lib.LaidTab
namespace Go.Proofs.YtjdiilkljgljkaaGreatDoor.topSmall
open Go.ChangeShapes Go.WideShapes Go.ChangeAt Go.RowKit Wd
set_option linter.unusedVariables false
set_option linter.unusedSimpArgs false

theorem own : ownKnob Tryz.prog.godebug = none := by kernel_rfl
theorem laidOut : laidOutB Tryz.prog = true := by kernel_rfl

set_option maxRecDepth 100000 in
set_option maxHeartbeats 4000000 in
theorem walk {w : World} (a0 b0 : Int) (w0 : (Lit.int .i64 a0).wf = true) (x0 : (Lit.int .i64 b0).wf = true) (a1 b1 : Int) (w1 : (Lit.int .i64 a1).wf = true) (x1 : (Lit.int .i64 b1).wf = true) (a2 b2 : Int) (w2 : (Lit.int .i64 a2).wf = true) (x2 : (Lit.int .i64 b2).wf = true) (hT : TabM w) (hF : TabF w) :
    Calls Tryz.prog 7 #[.agg #[.int .i64 a0, .int .i64 b0], .agg #[.int .i64 a1, .int .i64 b1], .agg #[.int .i64 a2, .int .i64 b2]] w fun e w' => e = .returned (.bool true) ∧ Below w.heap.size w w' := by
  have HB0 := Lib.hid (Below.refl w.heap.size w)
  have ia0 := isI_of_wf w0
  have ib0 := isI_of_wf x0
  have ia1 := isI_of_wf w1
  have ib1 := isI_of_wf x1
  have ia2 := isI_of_wf w2
  have ib2 := isI_of_wf x2
  have FT := Lib.hid hT; clear hT
  have FF := Lib.hid hF; clear hF
  have HP3 := Lib.hid (show P3 a0 b0 a1 b1 a2 b2 from ⟨ia0, ib0, ia1, ib1, ia2, ib2⟩)
  obtain ⟨c0, h0⟩ : ∃ c, c = smB a0 b0 := ⟨_, rfl⟩
  obtain ⟨c1, h1⟩ : ∃ c, c = smB a1 b1 := ⟨_, rfl⟩
  obtain ⟨c2, h2⟩ : ∃ c, c = smB a2 b2 := ⟨_, rfl⟩
  by_cases hc : smB a0 b0 = false
  · 
    have hsm : (smB a0 b0 && smB a1 b1 && smB a2 b2) = false := by rw [hc]; rfl
    have hx := hc
    have HX := Lib.hid hx
    clear hx hc
    have HSM := Lib.hid hsm; clear hsm h0 h1 h2
    go_enter Tryz.func7, Tryz.ntmps7
    go_wp2_with fail
    have B : Below w.heap.size w (((w.alloc (.cells #[.int .i64 a0, .int .i64 b0] 23)).alloc (.cells #[.int .i64 a1, .int .i64 b1] 23)).alloc (.cells #[.int .i64 a2, .int .i64 b2] 23)) := (((HB0.out.alloc HB0.out.size _).alloc (HB0.out.alloc HB0.out.size _).size _).alloc ((HB0.out.alloc HB0.out.size _).alloc (HB0.out.alloc HB0.out.size _).size _).size _)
    have C : Below w.heap.size w (((w.alloc (.cells #[.int .i64 a0, .int .i64 b0] 23)).alloc (.cells #[.int .i64 a1, .int .i64 b1] 23)).alloc (.cells #[.int .i64 a2, .int .i64 b2] 23)) := ((((Below.refl w.heap.size w).alloc (Nat.le_refl _) _).alloc (by simp; try omega) _).alloc (by simp; try omega) _)
    have X0 : Bx (((w.alloc (.cells #[.int .i64 a0, .int .i64 b0] 23)).alloc (.cells #[.int .i64 a1, .int .i64 b1] 23)).alloc (.cells #[.int .i64 a2, .int .i64 b2] 23)) (w.heap.size) #[.int .i64 a0, .int .i64 b0] 23 := by simpa using (((Bx.new w #[.int .i64 a0, .int .i64 b0] 23).alloc _).alloc _)
    have X1 : Bx (((w.alloc (.cells #[.int .i64 a0, .int .i64 b0] 23)).alloc (.cells #[.int .i64 a1, .int .i64 b1] 23)).alloc (.cells #[.int .i64 a2, .int .i64 b2] 23)) (w.heap.size + 1) #[.int .i64 a1, .int .i64 b1] 23 := by simpa using ((Bx.new (w.alloc (.cells #[.int .i64 a0, .int .i64 b0] 23)) #[.int .i64 a1, .int .i64 b1] 23).alloc _)
    have X2 : Bx (((w.alloc (.cells #[.int .i64 a0, .int .i64 b0] 23)).alloc (.cells #[.int .i64 a1, .int .i64 b1] 23)).alloc (.cells #[.int .i64 a2, .int .i64 b2] 23)) (w.heap.size + 1 + 1) #[.int .i64 a2, .int .i64 b2] 23 := by simpa using (Bx.new ((w.alloc (.cells #[.int .i64 a0, .int .i64 b0] 23)).alloc (.cells #[.int .i64 a1, .int .i64 b1] 23)) #[.int .i64 a2, .int .i64 b2] 23)
    have FT_1 := Lib.hid (FT.out.below C (Nat.le_refl _))
    have FF_1 := Lib.hid (FF.out.below C (Nat.le_refl _))
    have HB1 := Lib.hid B
    have FA_1 := Lib.hid X0
    have FB_1 := Lib.hid X1
    have FC_1 := Lib.hid X2
    clear B C X0 X1 X2 HB0 FT FF
    generalize (((w.alloc (.cells #[.int .i64 a0, .int .i64 b0] 23)).alloc (.cells #[.int .i64 a1, .int .i64 b1] 23)).alloc (.cells #[.int .i64 a2, .int .i64 b2] 23)) = w1 at *
    skip
    refine (plane_Orient_big _ _ _ _ _ _ HP3.out HSM.out _).mono ?_
    rintro e w2 ⟨rfl, B⟩
    have HB2 := Lib.hid (HB1.out.trans (B.mono HB1.out.size))
    have FT_2 := Lib.hid (FT_1.out.below B (Nat.le_refl _))
    have FF_2 := Lib.hid (FF_1.out.below B (Nat.le_refl _))
    have FA_2 := Lib.hid (FA_1.out.below B (Nat.le_refl _))
    have FB_2 := Lib.hid (FB_1.out.below B (Nat.le_refl _))
    have FC_2 := Lib.hid (FC_1.out.below B (Nat.le_refl _))
    clear B  HB1 FT_1 FF_1 FA_1 FB_1 FC_1
    have vA0 := FA_2.out.cell 0 (v := .int .i64 a0) rfl
    have vA1 := FA_2.out.cell 1 (v := .int .i64 b0) rfl
    have vB0 := FB_2.out.cell 0 (v := .int .i64 a1) rfl
    have vB1 := FB_2.out.cell 1 (v := .int .i64 b1) rfl
    have vC0 := FC_2.out.cell 0 (v := .int .i64 a2) rfl
    have vC1 := FC_2.out.cell 1 (v := .int .i64 b2) rfl
    go_wp2_with fail
    refine (ref9_IsSmall a0 b0 _).mono ?_
    rintro e w3 ⟨rfl, B⟩
    clear vA0 vA1 vB0 vB1 vC0 vC1
    have HB3 := Lib.hid (HB2.out.trans (B.mono HB2.out.size))
    have FT_3 := Lib.hid (FT_2.out.below B (Nat.le_refl _))
    have FF_3 := Lib.hid (FF_2.out.below B (Nat.le_refl _))
    have FA_3 := Lib.hid (FA_2.out.below B (Nat.le_refl _))
    have FB_3 := Lib.hid (FB_2.out.below B (Nat.le_refl _))
    have FC_3 := Lib.hid (FC_2.out.below B (Nat.le_refl _))
    clear B  HB2 FT_2 FF_2 FA_2 FB_2 FC_2
    rw [HX.out]
    have vA0 := FA_3.out.cell 0 (v := .int .i64 a0) rfl
    have vA1 := FA_3.out.cell 1 (v := .int .i64 b0) rfl
    have vB0 := FB_3.out.cell 0 (v := .int .i64 a1) rfl
    have vB1 := FB_3.out.cell 1 (v := .int .i64 b1) rfl
    have vC0 := FC_3.out.cell 0 (v := .int .i64 a2) rfl
    have vC1 := FC_3.out.cell 1 (v := .int .i64 b2) rfl
    go_wp2_with fail
    refine (top_serves _ FT_3.out FF_3.out).mono ?_
    rintro e w4 ⟨rfl, B⟩
    clear vA0 vA1 vB0 vB1 vC0 vC1
    have HB4 := Lib.hid (HB3.out.trans (B.mono HB3.out.size))
    have FT_4 := Lib.hid (FT_3.out.below B (Nat.le_refl _))
    have FF_4 := Lib.hid (FF_3.out.below B (Nat.le_refl _))
    have FA_4 := Lib.hid (FA_3.out.below B (Nat.le_refl _))
    have FB_4 := Lib.hid (FB_3.out.below B (Nat.le_refl _))
    have FC_4 := Lib.hid (FC_3.out.below B (Nat.le_refl _))
    clear B  HB3 FT_3 FF_3 FA_3 FB_3 FC_3
    go_wp2_with fail
    go_ret
    exact ⟨rfl, HB4.out⟩
  by_cases hc : smB a0 b0 = true ∧ smB a1 b1 = false
  · 
    have hsm : (smB a0 b0 && smB a1 b1 && smB a2 b2) = false := by rw [hc.1, hc.2]; rfl
    have hx := hc.1
    have hy := hc.2
    have HX := Lib.hid hx
    clear hx hc
    have HY := Lib.hid hy; clear hy
    have HSM := Lib.hid hsm; clear hsm h0 h1 h2
    go_enter Tryz.func7, Tryz.ntmps7
    go_wp2_with fail
    have B : Below w.heap.size w (((w.alloc (.cells #[.int .i64 a0, .int .i64 b0] 23)).alloc (.cells #[.int .i64 a1, .int .i64 b1] 23)).alloc (.cells #[.int .i64 a2, .int .i64 b2] 23)) := (((HB0.out.alloc HB0.out.size _).alloc (HB0.out.alloc HB0.out.size _).size _).alloc ((HB0.out.alloc HB0.out.size _).alloc (HB0.out.alloc HB0.out.size _).size _).size _)
    have C : Below w.heap.size w (((w.alloc (.cells #[.int .i64 a0, .int .i64 b0] 23)).alloc (.cells #[.int .i64 a1, .int .i64 b1] 23)).alloc (.cells #[.int .i64 a2, .int .i64 b2] 23)) := ((((Below.refl w.heap.size w).alloc (Nat.le_refl _) _).alloc (by simp; try omega) _).alloc (by simp; try omega) _)
    have X0 : Bx (((w.alloc (.cells #[.int .i64 a0, .int .i64 b0] 23)).alloc (.cells #[.int .i64 a1, .int .i64 b1] 23)).alloc (.cells #[.int .i64 a2, .int .i64 b2] 23)) (w.heap.size) #[.int .i64 a0, .int .i64 b0] 23 := by simpa using (((Bx.new w #[.int .i64 a0, .int .i64 b0] 23).alloc _).alloc _)
    have X1 : Bx (((w.alloc (.cells #[.int .i64 a0, .int .i64 b0] 23)).alloc (.cells #[.int .i64 a1, .int .i64 b1] 23)).alloc (.cells #[.int .i64 a2, .int .i64 b2] 23)) (w.heap.size + 1) #[.int .i64 a1, .int .i64 b1] 23 := by simpa using ((Bx.new (w.alloc (.cells #[.int .i64 a0, .int .i64 b0] 23)) #[.int .i64 a1, .int .i64 b1] 23).alloc _)
    have X2 : Bx (((w.alloc (.cells #[.int .i64 a0, .int .i64 b0] 23)).alloc (.cells #[.int .i64 a1, .int .i64 b1] 23)).alloc (.cells #[.int .i64 a2, .int .i64 b2] 23)) (w.heap.size + 1 + 1) #[.int .i64 a2, .int .i64 b2] 23 := by simpa using (Bx.new ((w.alloc (.cells #[.int .i64 a0, .int .i64 b0] 23)).alloc (.cells #[.int .i64 a1, .int .i64 b1] 23)) #[.int .i64 a2, .int .i64 b2] 23)
    have FT_1 := Lib.hid (FT.out.below C (Nat.le_refl _))
    have FF_1 := Lib.hid (FF.out.below C (Nat.le_refl _))
    have HB1 := Lib.hid B
    have FA_1 := Lib.hid X0
    have FB_1 := Lib.hid X1
    have FC_1 := Lib.hid X2
    clear B C X0 X1 X2 HB0 FT FF
    generalize (((w.alloc (.cells #[.int .i64 a0, .int .i64 b0] 23)).alloc (.cells #[.int .i64 a1, .int .i64 b1] 23)).alloc (.cells #[.int .i64 a2, .int .i64 b2] 23)) = w1 at *
    skip
    refine (plane_Orient_big _ _ _ _ _ _ HP3.out HSM.out _).mono ?_
    rintro e w2 ⟨rfl, B⟩
    have HB2 := Lib.hid (HB1.out.trans (B.mono HB1.out.size))
    have FT_2 := Lib.hid (FT_1.out.below B (Nat.le_refl _))
    have FF_2 := Lib.hid (FF_1.out.below B (Nat.le_refl _))
    have FA_2 := Lib.hid (FA_1.out.below B (Nat.le_refl _))
    have FB_2 := Lib.hid (FB_1.out.below B (Nat.le_refl _))
    have FC_2 := Lib.hid (FC_1.out.below B (Nat.le_refl _))
    clear B  HB1 FT_1 FF_1 FA_1 FB_1 FC_1
    have vA0 := FA_2.out.cell 0 (v := .int .i64 a0) rfl
    have vA1 := FA_2.out.cell 1 (v := .int .i64 b0) rfl
    have vB0 := FB_2.out.cell 0 (v := .int .i64 a1) rfl
    have vB1 := FB_2.out.cell 1 (v := .int .i64 b1) rfl
    have vC0 := FC_2.out.cell 0 (v := .int .i64 a2) rfl
    have vC1 := FC_2.out.cell 1 (v := .int .i64 b2) rfl
    go_wp2_with fail
    refine (ref9_IsSmall a0 b0 _).mono ?_
    rintro e w3 ⟨rfl, B⟩
    clear vA0 vA1 vB0 vB1 vC0 vC1
    have HB3 := Lib.hid (HB2.out.trans (B.mono HB2.out.size))
    have FT_3 := Lib.hid (FT_2.out.below B (Nat.le_refl _))
    have FF_3 := Lib.hid (FF_2.out.below B (Nat.le_refl _))
    have FA_3 := Lib.hid (FA_2.out.below B (Nat.le_refl _))
    have FB_3 := Lib.hid (FB_2.out.below B (Nat.le_refl _))
    have FC_3 := Lib.hid (FC_2.out.below B (Nat.le_refl _))
    clear B  HB2 FT_2 FF_2 FA_2 FB_2 FC_2
    rw [HX.out]
    have vA0 := FA_3.out.cell 0 (v := .int .i64 a0) rfl
    have vA1 := FA_3.out.cell 1 (v := .int .i64 b0) rfl
    have vB0 := FB_3.out.cell 0 (v := .int .i64 a1) rfl
    have vB1 := FB_3.out.cell 1 (v := .int .i64 b1) rfl
    have vC0 := FC_3.out.cell 0 (v := .int .i64 a2) rfl
    have vC1 := FC_3.out.cell 1 (v := .int .i64 b2) rfl
    go_wp2_with fail
    refine (ref9_IsSmall a1 b1 _).mono ?_
    rintro e w4 ⟨rfl, B⟩
    clear vA0 vA1 vB0 vB1 vC0 vC1
    have HB4 := Lib.hid (HB3.out.trans (B.mono HB3.out.size))
    have FT_4 := Lib.hid (FT_3.out.below B (Nat.le_refl _))
    have FF_4 := Lib.hid (FF_3.out.below B (Nat.le_refl _))
    have FA_4 := Lib.hid (FA_3.out.below B (Nat.le_refl _))
    have FB_4 := Lib.hid (FB_3.out.below B (Nat.le_refl _))
    have FC_4 := Lib.hid (FC_3.out.below B (Nat.le_refl _))
    clear B  HB3 FT_3 FF_3 FA_3 FB_3 FC_3
    rw [HY.out]
    have vA0 := FA_4.out.cell 0 (v := .int .i64 a0) rfl
    have vA1 := FA_4.out.cell 1 (v := .int .i64 b0) rfl
    have vB0 := FB_4.out.cell 0 (v := .int .i64 a1) rfl
    have vB1 := FB_4.out.cell 1 (v := .int .i64 b1) rfl
    have vC0 := FC_4.out.cell 0 (v := .int .i64 a2) rfl
    have vC1 := FC_4.out.cell 1 (v := .int .i64 b2) rfl
    go_wp2_with fail
    refine (top_serves _ FT_4.out FF_4.out).mono ?_
    rintro e w5 ⟨rfl, B⟩
    clear vA0 vA1 vB0 vB1 vC0 vC1
    have HB5 := Lib.hid (HB4.out.trans (B.mono HB4.out.size))
    have FT_5 := Lib.hid (FT_4.out.below B (Nat.le_refl _))
    have FF_5 := Lib.hid (FF_4.out.below B (Nat.le_refl _))
    have FA_5 := Lib.hid (FA_4.out.below B (Nat.le_refl _))
    have FB_5 := Lib.hid (FB_4.out.below B (Nat.le_refl _))
    have FC_5 := Lib.hid (FC_4.out.below B (Nat.le_refl _))
    clear B  HB4 FT_4 FF_4 FA_4 FB_4 FC_4
    go_wp2_with fail
    go_ret
    exact ⟨rfl, HB5.out⟩
  by_cases hc : smB a0 b0 = true ∧ smB a1 b1 = true ∧ smB a2 b2 = false
  · 
    have hsm : (smB a0 b0 && smB a1 b1 && smB a2 b2) = false := by rw [hc.1, hc.2.1, hc.2.2]; rfl
    have hx := hc.1
    have hy := hc.2.1
    have hz := hc.2.2
    have HX := Lib.hid hx
    clear hx hc
    have HY := Lib.hid hy; clear hy
    have HZ := Lib.hid hz; clear hz
    have HSM := Lib.hid hsm; clear hsm h0 h1 h2
    go_enter Tryz.func7, Tryz.ntmps7
    go_wp2_with fail
    have B : Below w.heap.size w (((w.alloc (.cells #[.int .i64 a0, .int .i64 b0] 23)).alloc (.cells #[.int .i64 a1, .int .i64 b1] 23)).alloc (.cells #[.int .i64 a2, .int .i64 b2] 23)) := (((HB0.out.alloc HB0.out.size _).alloc (HB0.out.alloc HB0.out.size _).size _).alloc ((HB0.out.alloc HB0.out.size _).alloc (HB0.out.alloc HB0.out.size _).size _).size _)
    have C : Below w.heap.size w (((w.alloc (.cells #[.int .i64 a0, .int .i64 b0] 23)).alloc (.cells #[.int .i64 a1, .int .i64 b1] 23)).alloc (.cells #[.int .i64 a2, .int .i64 b2] 23)) := ((((Below.refl w.heap.size w).alloc (Nat.le_refl _) _).alloc (by simp; try omega) _).alloc (by simp; try omega) _)
    have X0 : Bx (((w.alloc (.cells #[.int .i64 a0, .int .i64 b0] 23)).alloc (.cells #[.int .i64 a1, .int .i64 b1] 23)).alloc (.cells #[.int .i64 a2, .int .i64 b2] 23)) (w.heap.size) #[.int .i64 a0, .int .i64 b0] 23 := by simpa using (((Bx.new w #[.int .i64 a0, .int .i64 b0] 23).alloc _).alloc _)
    have X1 : Bx (((w.alloc (.cells #[.int .i64 a0, .int .i64 b0] 23)).alloc (.cells #[.int .i64 a1, .int .i64 b1] 23)).alloc (.cells #[.int .i64 a2, .int .i64 b2] 23)) (w.heap.size + 1) #[.int .i64 a1, .int .i64 b1] 23 := by simpa using ((Bx.new (w.alloc (.cells #[.int .i64 a0, .int .i64 b0] 23)) #[.int .i64 a1, .int .i64 b1] 23).alloc _)
    have X2 : Bx (((w.alloc (.cells #[.int .i64 a0, .int .i64 b0] 23)).alloc (.cells #[.int .i64 a1, .int .i64 b1] 23)).alloc (.cells #[.int .i64 a2, .int .i64 b2] 23)) (w.heap.size + 1 + 1) #[.int .i64 a2, .int .i64 b2] 23 := by simpa using (Bx.new ((w.alloc (.cells #[.int .i64 a0, .int .i64 b0] 23)).alloc (.cells #[.int .i64 a1, .int .i64 b1] 23)) #[.int .i64 a2, .int .i64 b2] 23)
    have FT_1 := Lib.hid (FT.out.below C (Nat.le_refl _))
    have FF_1 := Lib.hid (FF.out.below C (Nat.le_refl _))
    have HB1 := Lib.hid B
    have FA_1 := Lib.hid X0
    have FB_1 := Lib.hid X1
    have FC_1 := Lib.hid X2
    clear B C X0 X1 X2 HB0 FT FF
    generalize (((w.alloc (.cells #[.int .i64 a0, .int .i64 b0] 23)).alloc (.cells #[.int .i64 a1, .int .i64 b1] 23)).alloc (.cells #[.int .i64 a2, .int .i64 b2] 23)) = w1 at *
    skip
    refine (plane_Orient_big _ _ _ _ _ _ HP3.out HSM.out _).mono ?_
    rintro e w2 ⟨rfl, B⟩
    have HB2 := Lib.hid (HB1.out.trans (B.mono HB1.out.size))
    have FT_2 := Lib.hid (FT_1.out.below B (Nat.le_refl _))
    have FF_2 := Lib.hid (FF_1.out.below B (Nat.le_refl _))
    have FA_2 := Lib.hid (FA_1.out.below B (Nat.le_refl _))
    have FB_2 := Lib.hid (FB_1.out.below B (Nat.le_refl _))
    have FC_2 := Lib.hid (FC_1.out.below B (Nat.le_refl _))
    clear B  HB1 FT_1 FF_1 FA_1 FB_1 FC_1
    have vA0 := FA_2.out.cell 0 (v := .int .i64 a0) rfl
    have vA1 := FA_2.out.cell 1 (v := .int .i64 b0) rfl
    have vB0 := FB_2.out.cell 0 (v := .int .i64 a1) rfl
    have vB1 := FB_2.out.cell 1 (v := .int .i64 b1) rfl
    have vC0 := FC_2.out.cell 0 (v := .int .i64 a2) rfl
    have vC1 := FC_2.out.cell 1 (v := .int .i64 b2) rfl
    go_wp2_with fail
    refine (ref9_IsSmall a0 b0 _).mono ?_
    rintro e w3 ⟨rfl, B⟩
    clear vA0 vA1 vB0 vB1 vC0 vC1
    have HB3 := Lib.hid (HB2.out.trans (B.mono HB2.out.size))
    have FT_3 := Lib.hid (FT_2.out.below B (Nat.le_refl _))
    have FF_3 := Lib.hid (FF_2.out.below B (Nat.le_refl _))
    have FA_3 := Lib.hid (FA_2.out.below B (Nat.le_refl _))
    have FB_3 := Lib.hid (FB_2.out.below B (Nat.le_refl _))
    have FC_3 := Lib.hid (FC_2.out.below B (Nat.le_refl _))
    clear B  HB2 FT_2 FF_2 FA_2 FB_2 FC_2
    rw [HX.out]
    have vA0 := FA_3.out.cell 0 (v := .int .i64 a0) rfl
    have vA1 := FA_3.out.cell 1 (v := .int .i64 b0) rfl
    have vB0 := FB_3.out.cell 0 (v := .int .i64 a1) rfl
    have vB1 := FB_3.out.cell 1 (v := .int .i64 b1) rfl
    have vC0 := FC_3.out.cell 0 (v := .int .i64 a2) rfl
    have vC1 := FC_3.out.cell 1 (v := .int .i64 b2) rfl
    go_wp2_with fail
    refine (ref9_IsSmall a1 b1 _).mono ?_
    rintro e w4 ⟨rfl, B⟩
    clear vA0 vA1 vB0 vB1 vC0 vC1
    have HB4 := Lib.hid (HB3.out.trans (B.mono HB3.out.size))
    have FT_4 := Lib.hid (FT_3.out.below B (Nat.le_refl _))
    have FF_4 := Lib.hid (FF_3.out.below B (Nat.le_refl _))
    have FA_4 := Lib.hid (FA_3.out.below B (Nat.le_refl _))
    have FB_4 := Lib.hid (FB_3.out.below B (Nat.le_refl _))
    have FC_4 := Lib.hid (FC_3.out.below B (Nat.le_refl _))
    clear B  HB3 FT_3 FF_3 FA_3 FB_3 FC_3
    rw [HY.out]
    have vA0 := FA_4.out.cell 0 (v := .int .i64 a0) rfl
    have vA1 := FA_4.out.cell 1 (v := .int .i64 b0) rfl
    have vB0 := FB_4.out.cell 0 (v := .int .i64 a1) rfl
    have vB1 := FB_4.out.cell 1 (v := .int .i64 b1) rfl
    have vC0 := FC_4.out.cell 0 (v := .int .i64 a2) rfl
    have vC1 := FC_4.out.cell 1 (v := .int .i64 b2) rfl
    go_wp2_with fail
    refine (ref9_IsSmall a2 b2 _).mono ?_
    rintro e w5 ⟨rfl, B⟩
    clear vA0 vA1 vB0 vB1 vC0 vC1
    have HB5 := Lib.hid (HB4.out.trans (B.mono HB4.out.size))
    have FT_5 := Lib.hid (FT_4.out.below B (Nat.le_refl _))
    have FF_5 := Lib.hid (FF_4.out.below B (Nat.le_refl _))
    have FA_5 := Lib.hid (FA_4.out.below B (Nat.le_refl _))
    have FB_5 := Lib.hid (FB_4.out.below B (Nat.le_refl _))
    have FC_5 := Lib.hid (FC_4.out.below B (Nat.le_refl _))
    clear B  HB4 FT_4 FF_4 FA_4 FB_4 FC_4
    rw [HZ.out]
    have vA0 := FA_5.out.cell 0 (v := .int .i64 a0) rfl
    have vA1 := FA_5.out.cell 1 (v := .int .i64 b0) rfl
    have vB0 := FB_5.out.cell 0 (v := .int .i64 a1) rfl
    have vB1 := FB_5.out.cell 1 (v := .int .i64 b1) rfl
    have vC0 := FC_5.out.cell 0 (v := .int .i64 a2) rfl
    have vC1 := FC_5.out.cell 1 (v := .int .i64 b2) rfl
    go_wp2_with fail
    refine (top_serves _ FT_5.out FF_5.out).mono ?_
    rintro e w6 ⟨rfl, B⟩
    clear vA0 vA1 vB0 vB1 vC0 vC1
    have HB6 := Lib.hid (HB5.out.trans (B.mono HB5.out.size))
    have FT_6 := Lib.hid (FT_5.out.below B (Nat.le_refl _))
    have FF_6 := Lib.hid (FF_5.out.below B (Nat.le_refl _))
    have FA_6 := Lib.hid (FA_5.out.below B (Nat.le_refl _))
    have FB_6 := Lib.hid (FB_5.out.below B (Nat.le_refl _))
    have FC_6 := Lib.hid (FC_5.out.below B (Nat.le_refl _))
    clear B  HB5 FT_5 FF_5 FA_5 FB_5 FC_5
    go_wp2_with fail
    go_ret
    exact ⟨rfl, HB6.out⟩
  by_cases hc : smB a0 b0 = true ∧ smB a1 b1 = true ∧ smB a2 b2 = true
  · 
    have hsm : (smB a0 b0 && smB a1 b1 && smB a2 b2) = true := by rw [hc.1, hc.2.1, hc.2.2]; rfl
    have hx := hc.1
    have hy := hc.2.1
    have hz := hc.2.2
    have HX := Lib.hid hx
    clear hx hc
    have HY := Lib.hid hy; clear hy
    have HZ := Lib.hid hz; clear hz
    have HSM := Lib.hid hsm; clear hsm h0 h1 h2
    go_enter Tryz.func7, Tryz.ntmps7
    go_wp2_with fail
    have B : Below w.heap.size w (((w.alloc (.cells #[.int .i64 a0, .int .i64 b0] 23)).alloc (.cells #[.int .i64 a1, .int .i64 b1] 23)).alloc (.cells #[.int .i64 a2, .int .i64 b2] 23)) := (((HB0.out.alloc HB0.out.size _).alloc (HB0.out.alloc HB0.out.size _).size _).alloc ((HB0.out.alloc HB0.out.size _).alloc (HB0.out.alloc HB0.out.size _).size _).size _)
    have C : Below w.heap.size w (((w.alloc (.cells #[.int .i64 a0, .int .i64 b0] 23)).alloc (.cells #[.int .i64 a1, .int .i64 b1] 23)).alloc (.cells #[.int .i64 a2, .int .i64 b2] 23)) := ((((Below.refl w.heap.size w).alloc (Nat.le_refl _) _).alloc (by simp; try omega) _).alloc (by simp; try omega) _)
    have X0 : Bx (((w.alloc (.cells #[.int .i64 a0, .int .i64 b0] 23)).alloc (.cells #[.int .i64 a1, .int .i64 b1] 23)).alloc (.cells #[.int .i64 a2, .int .i64 b2] 23)) (w.heap.size) #[.int .i64 a0, .int .i64 b0] 23 := by simpa using (((Bx.new w #[.int .i64 a0, .int .i64 b0] 23).alloc _).alloc _)
    have X1 : Bx (((w.alloc (.cells #[.int .i64 a0, .int .i64 b0] 23)).alloc (.cells #[.int .i64 a1, .int .i64 b1] 23)).alloc (.cells #[.int .i64 a2, .int .i64 b2] 23)) (w.heap.size + 1) #[.int .i64 a1, .int .i64 b1] 23 := by simpa using ((Bx.new (w.alloc (.cells #[.int .i64 a0, .int .i64 b0] 23)) #[.int .i64 a1, .int .i64 b1] 23).alloc _)
    have X2 : Bx (((w.alloc (.cells #[.int .i64 a0, .int .i64 b0] 23)).alloc (.cells #[.int .i64 a1, .int .i64 b1] 23)).alloc (.cells #[.int .i64 a2, .int .i64 b2] 23)) (w.heap.size + 1 + 1) #[.int .i64 a2, .int .i64 b2] 23 := by simpa using (Bx.new ((w.alloc (.cells #[.int .i64 a0, .int .i64 b0] 23)).alloc (.cells #[.int .i64 a1, .int .i64 b1] 23)) #[.int .i64 a2, .int .i64 b2] 23)
    have FT_1 := Lib.hid (FT.out.below C (Nat.le_refl _))
    have FF_1 := Lib.hid (FF.out.below C (Nat.le_refl _))
    have HB1 := Lib.hid B
    have FA_1 := Lib.hid X0
    have FB_1 := Lib.hid X1
    have FC_1 := Lib.hid X2
    clear B C X0 X1 X2 HB0 FT FF
    generalize (((w.alloc (.cells #[.int .i64 a0, .int .i64 b0] 23)).alloc (.cells #[.int .i64 a1, .int .i64 b1] 23)).alloc (.cells #[.int .i64 a2, .int .i64 b2] 23)) = w1 at *
    skip
    refine (plane_Orient_small _ _ _ _ _ _ HP3.out HSM.out _).mono ?_
    rintro e w2 ⟨rfl, B⟩
    have HB2 := Lib.hid (HB1.out.trans (B.mono HB1.out.size))
    have FT_2 := Lib.hid (FT_1.out.below B (Nat.le_refl _))
    have FF_2 := Lib.hid (FF_1.out.below B (Nat.le_refl _))
    have FA_2 := Lib.hid (FA_1.out.below B (Nat.le_refl _))
    have FB_2 := Lib.hid (FB_1.out.below B (Nat.le_refl _))
    have FC_2 := Lib.hid (FC_1.out.below B (Nat.le_refl _))
    clear B  HB1 FT_1 FF_1 FA_1 FB_1 FC_1
    have vA0 := FA_2.out.cell 0 (v := .int .i64 a0) rfl
    have vA1 := FA_2.out.cell 1 (v := .int .i64 b0) rfl
    have vB0 := FB_2.out.cell 0 (v := .int .i64 a1) rfl
    have vB1 := FB_2.out.cell 1 (v := .int .i64 b1) rfl
    have vC0 := FC_2.out.cell 0 (v := .int .i64 a2) rfl
    have vC1 := FC_2.out.cell 1 (v := .int .i64 b2) rfl
    go_wp2_with fail
    refine (ref9_IsSmall a0 b0 _).mono ?_
    rintro e w3 ⟨rfl, B⟩
    clear vA0 vA1 vB0 vB1 vC0 vC1
    have HB3 := Lib.hid (HB2.out.trans (B.mono HB2.out.size))
    have FT_3 := Lib.hid (FT_2.out.below B (Nat.le_refl _))
    have FF_3 := Lib.hid (FF_2.out.below B (Nat.le_refl _))
    have FA_3 := Lib.hid (FA_2.out.below B (Nat.le_refl _))
    have FB_3 := Lib.hid (FB_2.out.below B (Nat.le_refl _))
    have FC_3 := Lib.hid (FC_2.out.below B (Nat.le_refl _))
    clear B  HB2 FT_2 FF_2 FA_2 FB_2 FC_2
    rw [HX.out]
    have vA0 := FA_3.out.cell 0 (v := .int .i64 a0) rfl
    have vA1 := FA_3.out.cell 1 (v := .int .i64 b0) rfl
    have vB0 := FB_3.out.cell 0 (v := .int .i64 a1) rfl
    have vB1 := FB_3.out.cell 1 (v := .int .i64 b1) rfl
    have vC0 := FC_3.out.cell 0 (v := .int .i64 a2) rfl
    have vC1 := FC_3.out.cell 1 (v := .int .i64 b2) rfl
    go_wp2_with fail
    refine (ref9_IsSmall a1 b1 _).mono ?_
    rintro e w4 ⟨rfl, B⟩
    clear vA0 vA1 vB0 vB1 vC0 vC1
    have HB4 := Lib.hid (HB3.out.trans (B.mono HB3.out.size))
    have FT_4 := Lib.hid (FT_3.out.below B (Nat.le_refl _))
    have FF_4 := Lib.hid (FF_3.out.below B (Nat.le_refl _))
    have FA_4 := Lib.hid (FA_3.out.below B (Nat.le_refl _))
    have FB_4 := Lib.hid (FB_3.out.below B (Nat.le_refl _))
    have FC_4 := Lib.hid (FC_3.out.below B (Nat.le_refl _))
    clear B  HB3 FT_3 FF_3 FA_3 FB_3 FC_3
    rw [HY.out]
    have vA0 := FA_4.out.cell 0 (v := .int .i64 a0) rfl
    have vA1 := FA_4.out.cell 1 (v := .int .i64 b0) rfl
    have vB0 := FB_4.out.cell 0 (v := .int .i64 a1) rfl
    have vB1 := FB_4.out.cell 1 (v := .int .i64 b1) rfl
    have vC0 := FC_4.out.cell 0 (v := .int .i64 a2) rfl
    have vC1 := FC_4.out.cell 1 (v := .int .i64 b2) rfl
    go_wp2_with fail
    refine (ref9_IsSmall a2 b2 _).mono ?_
    rintro e w5 ⟨rfl, B⟩
    clear vA0 vA1 vB0 vB1 vC0 vC1
    have HB5 := Lib.hid (HB4.out.trans (B.mono HB4.out.size))
    have FT_5 := Lib.hid (FT_4.out.below B (Nat.le_refl _))
    have FF_5 := Lib.hid (FF_4.out.below B (Nat.le_refl _))
    have FA_5 := Lib.hid (FA_4.out.below B (Nat.le_refl _))
    have FB_5 := Lib.hid (FB_4.out.below B (Nat.le_refl _))
    have FC_5 := Lib.hid (FC_4.out.below B (Nat.le_refl _))
    clear B  HB4 FT_4 FF_4 FA_4 FB_4 FC_4
    rw [HZ.out]
    have vA0 := FA_5.out.cell 0 (v := .int .i64 a0) rfl
    have vA1 := FA_5.out.cell 1 (v := .int .i64 b0) rfl
    have vB0 := FB_5.out.cell 0 (v := .int .i64 a1) rfl
    have vB1 := FB_5.out.cell 1 (v := .int .i64 b1) rfl
    have vC0 := FC_5.out.cell 0 (v := .int .i64 a2) rfl
    have vC1 := FC_5.out.cell 1 (v := .int .i64 b2) rfl
    go_wp2_with fail
    refine (top_serves _ FT_5.out FF_5.out).mono ?_
    rintro e w6 ⟨rfl, B⟩
    clear vA0 vA1 vB0 vB1 vC0 vC1
    have HB6 := Lib.hid (HB5.out.trans (B.mono HB5.out.size))
    have FT_6 := Lib.hid (FT_5.out.below B (Nat.le_refl _))
    have FF_6 := Lib.hid (FF_5.out.below B (Nat.le_refl _))
    have FA_6 := Lib.hid (FA_5.out.below B (Nat.le_refl _))
    have FB_6 := Lib.hid (FB_5.out.below B (Nat.le_refl _))
    have FC_6 := Lib.hid (FC_5.out.below B (Nat.le_refl _))
    clear B  HB5 FT_5 FF_5 FA_5 FB_5 FC_5
    have vA0 := FA_6.out.cell 0 (v := .int .i64 a0) rfl
    have vA1 := FA_6.out.cell 1 (v := .int .i64 b0) rfl
    have vB0 := FB_6.out.cell 0 (v := .int .i64 a1) rfl
    have vB1 := FB_6.out.cell 1 (v := .int .i64 b1) rfl
    have vC0 := FC_6.out.cell 0 (v := .int .i64 a2) rfl
    have vC1 := FC_6.out.cell 1 (v := .int .i64 b2) rfl
    go_wp2_with fail
    refine (orient_Sign _ _ _ _ _ _ HP3.out _ FT_6.out).mono ?_
    rintro e w7 ⟨rfl, B⟩
    clear vA0 vA1 vB0 vB1 vC0 vC1
    have HB7 := Lib.hid (HB6.out.trans (B.mono HB6.out.size))
    have FT_7 := Lib.hid (FT_6.out.below B (Nat.le_refl _))
    have FF_7 := Lib.hid (FF_6.out.below B (Nat.le_refl _))
    have FA_7 := Lib.hid (FA_6.out.below B (Nat.le_refl _))
    have FB_7 := Lib.hid (FB_6.out.below B (Nat.le_refl _))
    have FC_7 := Lib.hid (FC_6.out.below B (Nat.le_refl _))
    clear B  HB6 FT_6 FF_6 FA_6 FB_6 FC_6
    go_wp2_with fail
    go_ret
    exact ⟨rfl, HB7.out⟩
  exfalso
  cases hx : smB a0 b0 <;> cases hy : smB a1 b1 <;> cases hz : smB a2 b2 <;> simp_all

theorem gTab0 : Tryz.prog.globalNamed "geofence/mask.words" = some 0 := by kernel_rfl
theorem gTabType0 : (Tryz.prog.globals[0]?).map (·.type) = some 154 := by kernel_rfl
theorem cellsT0 : Tryz.prog.cellsOf 154 = 2 := by kernel_rfl
theorem cellsE0 : Tryz.prog.cellsOf 61 = 1 := by kernel_rfl
theorem tableIs0 {W : World} (h : laidMetH Tryz.prog Rows.topSmallRow.laid W) : Lib.TabIs Tryz.prog W "geofence/mask.words" .u64 [9223372036854775808, 18446744073709551615] :=
  Lib.tabIs_of_head (rest := _) gTab0 gTabType0 Tryz.underlying154 Tryz.underlying61 cellsE0 cellsT0 h
theorem table0 {W : World} (h : laidMetH Tryz.prog Rows.topSmallRow.laid W) : TabM W := ⟨(tableIs0 h).cell gTab0 0 (by decide), (tableIs0 h).cell gTab0 1 (by decide)⟩

theorem gTab1 : Tryz.prog.globalNamed "geofence/header.fixed" = some 1 := by kernel_rfl
theorem gTabType1 : (Tryz.prog.globals[1]?).map (·.type) = some 117 := by kernel_rfl
theorem cellsT1 : Tryz.prog.cellsOf 117 = 6 := by kernel_rfl
theorem cellsE1 : Tryz.prog.cellsOf 3 = 1 := by kernel_rfl
theorem tableIs1 {W : World} (h : laidMetH Tryz.prog Rows.topSmallRow.laid W) : Lib.TabIs Tryz.prog W "geofence/header.fixed" .i64 [0, 3, 4, 1, 1, 0] :=
  Lib.tabIs_of_head (rest := _) gTab1 gTabType1 Tryz.underlying117 Tryz.underlying3 cellsE1 cellsT1 (laid_tail h)
theorem table1 {W : World} (h : laidMetH Tryz.prog Rows.topSmallRow.laid W) : TabF W := ⟨(tableIs1 h).cell gTab1 0 (by decide), (tableIs1 h).cell gTab1 1 (by decide), (tableIs1 h).cell gTab1 2 (by decide), (tableIs1 h).cell gTab1 3 (by decide), (tableIs1 h).cell gTab1 4 (by decide), (tableIs1 h).cell gTab1 5 (by decide)⟩

set_option maxRecDepth 100000 in
theorem contract (H : Type) (enc : TypeId × Value → H) (W : World) (base : Nat) (args : Array Value) (ds gs : List (DataW H)) (before : List MemPlace)
    (hval : ∀ (j : Nat) t v, Tryz.f7.params[j]? = some t → args[j]? = some v → Value.okWide Tryz.prog W .any base t v)
    (hW : DataW.Whole enc Tryz.prog Tryz.f7.params.toList Rows.topSmallSpec.vars false W args.toList ds gs before) (hL : laidMetH Tryz.prog Rows.topSmallRow.laid W) :
    Calls Tryz.prog 7 args W fun e W' => ∃ v, e = .returned v ∧ Rows.topSmallSpec.post enc Tryz.prog Tryz.f7 false true false false W args v W' := by
  have hW' := hW
  obtain ⟨p, q, hA0, hV, rfl, hfz, hnd⟩ := hW
  have hA : DataW.TrodAll enc Tryz.prog W 0 (fun _ => true) true Tryz.f7.params.toList args.toList ds p := hA0
  rw [Tryz.params7] at hA hval
  obtain ⟨v0, vs0, d0, ds0, p0, q0, hargs, rfl, rfl, h0, r0⟩ := trodAll_cons hA
  obtain ⟨v1, vs1, d1, ds1, p1, q1, rfl, rfl, rfl, h1, r1⟩ := trodAll_cons r0
  obtain ⟨v2, vs2, d2, ds2, p2, q2, rfl, rfl, rfl, h2, r2⟩ := trodAll_cons r1
  obtain ⟨rfl, rfl, rfl⟩ := trodAll_nil r2
  obtain rfl : args = #[v0, v1, v2] := by cases args; simp_all
  obtain ⟨rfl, rfl⟩ := trodVars_none hV
  have k0 := h0
  have lt0 : ∀ x ∈ p0, x.block < W.heap.size := by obtain ⟨m, hm⟩ := k0; exact DataW.trod_lt m _ _ _ hm
  have k1 := h1
  have lt1 : ∀ x ∈ p1, x.block < W.heap.size := by obtain ⟨m, hm⟩ := k1; exact DataW.trod_lt m _ _ _ hm
  have k2 := h2
  have lt2 : ∀ x ∈ p2, x.block < W.heap.size := by obtain ⟨m, hm⟩ := k2; exact DataW.trod_lt m _ _ _ hm
  obtain ⟨a0, b0, rfl, w0, x0⟩ := Op.open_pt Tryz.underlying23 rfl rfl rfl rfl Tryz.underlying2 (by kernel_rfl) (by kernel_rfl) h0
  obtain ⟨a1, b1, rfl, w1, x1⟩ := Op.open_pt Tryz.underlying23 rfl rfl rfl rfl Tryz.underlying2 (by kernel_rfl) (by kernel_rfl) h1
  obtain ⟨a2, b2, rfl, w2, x2⟩ := Op.open_pt Tryz.underlying23 rfl rfl rfl rfl Tryz.underlying2 (by kernel_rfl) (by kernel_rfl) h2
  clear hA0
  refine (walk a0 b0 w0 x0 a1 b1 w1 x1 a2 b2 w2 x2 (table0 hL) (table1 hL)).mono fun e W' ⟨he, bel⟩ => ?_
  subst he
  exact ⟨_, rfl, _, _, _, [], _, [], hW', trodAll_mk1 (shut_bool Tryz.underlying4 _), (trodAll_cons_mk (Below.trod laidOut (by kernel_rfl) (of_decide_eq_true (by kernel_rfl)) k0 bel lt0) (trodAll_cons_mk (Below.trod laidOut (by kernel_rfl) (of_decide_eq_true (by kernel_rfl)) k1 bel lt1) (trodAll_cons_mk (Below.trod laidOut (by kernel_rfl) (of_decide_eq_true (by kernel_rfl)) k2 bel lt2) trodAll_mk0))), rfl, bel.frame _, fun h => by cases h⟩

theorem joined : joinedFacts Tryz.prog 7 Tryz.f7 (OpenSpec.ofChange Rows.topSmallSpec).bare Rows.topSmallRow = true := by
  have e1 := enterIs
  have e2 := liftsIs
  have e3 := makeIs
  generalize hP : Tryz.prog = P at *
  unfold joinedFacts
  simp only [Bool.and_eq_true]
  repeat' apply And.intro
  all_goals first
    | with_reducible exact e1
    | (rw [e2]; kernel_rfl)
    | (rw [e3]; kernel_rfl)
    | (subst hP; kernel_rfl)

noncomputable def laidHeap (os : Os) : Array Obj :=
  ((World.holding Tryz.prog os ⟨#[], #[], []⟩).heap.modify 0 (fun
      | .cells _ t frozen => .cells #[.int .u64 9223372036854775808, .int .u64 18446744073709551615] t frozen
      | o => o)).modify 1 (fun
      | .cells _ t frozen => .cells #[.int .i64 0, .int .i64 3, .int .i64 4, .int .i64 1, .int .i64 1, .int .i64 0] t frozen
      | o => o)
noncomputable def laidWorld (os : Os) : World :=
  { World.holding Tryz.prog os ⟨#[], #[], []⟩ with heap := laidHeap os }
theorem laid_met (os : Os) : laidMet Tryz.prog Rows.topSmallRow.laid ((laidWorld os).forCall (fun _ _ => 0) ⟨#[], #[.agg #[.int .i64 0, .int .i64 0], .agg #[.int .i64 0, .int .i64 0], .agg #[.int .i64 0, .int .i64 0]], []⟩).memory :=
  laidMet_of_run' 8 (by kernel_rfl) (by kernel_rfl)
theorem reads (os : Os) {H : Type} (enc : TypeId × Value → H) : ∃ places, DataW.whole enc Tryz.prog ((laidWorld os).forCall (fun _ _ => 0) ⟨#[], #[.agg #[.int .i64 0, .int .i64 0], .agg #[.int .i64 0, .int .i64 0], .agg #[.int .i64 0, .int .i64 0]], []⟩).memory Tryz.f7.params.toList Rows.topSmallSpec.vars false (#[.agg #[.int .i64 0, .int .i64 0], .agg #[.int .i64 0, .int .i64 0], .agg #[.int .i64 0, .int .i64 0]] : Array Value).toList 8 = some ([.agg [.lit (.int .i64 0), .lit (.int .i64 0)], .agg [.lit (.int .i64 0), .lit (.int .i64 0)], .agg [.lit (.int .i64 0), .lit (.int .i64 0)]], [], places) :=
  ⟨[], by kernel_rfl⟩

set_option maxRecDepth 100000 in
theorem lifted (os : Os) (started : os.Started) (H : Type) (enc : TypeId × Value → H) (F : Stop.Interp) :
    ReturnsInHanded {} Tryz.checked os 7 .any ((OpenSpec.ofChange Rows.topSmallSpec).preRow enc Tryz.prog Tryz.f7 Rows.topSmallRow.domain false Rows.topSmallRow.laid) (((OpenSpec.ofChange Rows.topSmallSpec).at F).post enc Tryz.prog Tryz.f7 false true false false) := by
  obtain ⟨places, hx⟩ := reads os enc
  refine returnsInHanded_of_row (C := Tryz.checked) (s := OpenSpec.ofChange Rows.topSmallSpec) own started (by kernel_rfl) Tryz.func7
    (witness_row_at (enc := enc) (C := Tryz.checked) false (laidWorld os) #[.agg #[.int .i64 0, .int .i64 0], .agg #[.int .i64 0, .int .i64 0], .agg #[.int .i64 0, .int .i64 0]] rfl (by kernel_rfl) (by kernel_rfl) (by kernel_rfl)
      (OpenSpec.preRow_of_cond 8 hx (by kernel_rfl) (fun k hk => by cases hk) (by kernel_rfl) (laid_met os))) ?_
  intro W base args ds gs before hval hW _ _ _ hL _ _
  exact contract H enc W base args ds gs before hval hW hL

theorem said : Rows.TopSmallSaid :=
  OpenClaim.holds_of_cond 7 Tryz.f7 rfl rfl rfl rfl rfl rfl rfl ⟨rfl, rfl, rfl, rfl, rfl⟩ rfl rfl rfl rfl rfl (by kernel_rfl) Tryz.func7 (joined)
    (of_decide_eq_true (by kernel_rfl)) (by unfold Func.isWrapper; first | (rw [if_pos (by decide +kernel)]; kernel_rfl) | (rw [if_neg (by decide +kernel)]; exact ⟨rfl, rfl⟩))
    (fun os started H enc _ F => by rw [OpenClaim.pre_eq_preRow]; exact lifted os started H enc F)

theorem plain (f : FuncId) (fn : Func) (hf : Tryz.pinned.checked.prog.funcNamed "geofence/geofencetop.TopSmall" = some f) (hfn : Tryz.pinned.checked.prog.funcs[f]? = some fn) :
    false = Tryz.pinned.checked.prog.looks [] ∧ ∀ (j : Nat) t, fn.params[j]? = some t → Tryz.pinned.checked.prog.wantsStandIn t = false := by
  obtain rfl : f = 7 := Option.some.inj ((show Tryz.prog.funcNamed "geofence/geofencetop.TopSmall" = some 7 by kernel_rfl).symm.trans hf) |>.symm
  obtain rfl : fn = Tryz.f7 := (Option.some.inj (Tryz.func7.symm.trans hfn)).symm
  refine ⟨by kernel_rfl, fun j t ht => ?_⟩
  rw [Tryz.params7] at ht
  have hm := Array.mem_of_getElem? ht
  simp at hm
  obtain rfl := hm
  exact (show Tryz.prog.wantsStandIn 23 = false by kernel_rfl)

/-- THE CARD -/
theorem card : Rows.TopSmallCardSaid :=
  Claim7.holds_tied_plain_at .later [] _ _ _ _ said (fun _ h => by cases h) (by kernel_rfl) (fun _ h => by cases h) topSmall_row_tie rfl ⟨rfl, rfl⟩ (mainText) rfl plain (by kernel_rfl)
#print axioms card
end Go.Proofs.YtjdiilkljgljkaaGreatDoor.topSmall
