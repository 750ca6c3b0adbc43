/- Contract of segment.Meets. -/
import Derived.Test.YtoikcgmdlccdbaaDoorSeg3
namespace Go.Proofs.YtoikcgmdlccdbaaDoor
set_option linter.unusedVariables false
set_option linter.unusedSimpArgs false
open Go.RowKit Wd

def meetB (ax ay bx b_ cx cy dx dy : Int) : Bool := crossB ax ay bx b_ cx cy dx dy || contB ax ay bx b_ cx cy || contB ax ay bx b_ dx dy || contB cx cy dx dy ax ay || contB cx cy dx dy bx b_
set_option maxHeartbeats 4000000 in
theorem segment_Meets (ax ay bx b_ cx cy dx dy : Int) (hp : P4 ax ay bx b_ cx cy dx dy) (w : World) (hT : TabM w) (hO : TabO w) :
    Calls Tryd.prog 29 #[.agg #[.int .i64 ax, .int .i64 ay], .agg #[.int .i64 bx, .int .i64 b_], .agg #[.int .i64 cx, .int .i64 cy], .agg #[.int .i64 dx, .int .i64 dy]] w fun e w' => e = .returned (.int .u64 (msk (meetB ax ay bx b_ cx cy dx dy))) ∧ Below w.heap.size w w' := by
  have HB0 := Lib.hid (Below.refl w.heap.size w)
  have FT := Lib.hid hT
  have FO := Lib.hid hO
  clear hT hO
  unfold meetB
  have hix0 : ∀ (w : World), (Instr.index 68 (.agg #[.int .i64 ax, .int .i64 ay, .int .i64 bx, .int .i64 b_, .int .i64 cx, .int .i64 cy, .int .i64 ax, .int .i64 ay, .int .i64 bx, .int .i64 b_, .int .i64 dx, .int .i64 dy, .int .i64 cx, .int .i64 cy, .int .i64 dx, .int .i64 dy, .int .i64 ax, .int .i64 ay, .int .i64 cx, .int .i64 cy, .int .i64 dx, .int .i64 dy, .int .i64 bx, .int .i64 b_]) (.int .i64 0)).run Tryd.prog w = .ok (.agg #[.int .i64 ax, .int .i64 ay, .int .i64 bx, .int .i64 b_, .int .i64 cx, .int .i64 cy]) w := fun _ => by kernel_rfl
  have hix1 : ∀ (w : World), (Instr.index 68 (.agg #[.int .i64 ax, .int .i64 ay, .int .i64 bx, .int .i64 b_, .int .i64 cx, .int .i64 cy, .int .i64 ax, .int .i64 ay, .int .i64 bx, .int .i64 b_, .int .i64 dx, .int .i64 dy, .int .i64 cx, .int .i64 cy, .int .i64 dx, .int .i64 dy, .int .i64 ax, .int .i64 ay, .int .i64 cx, .int .i64 cy, .int .i64 dx, .int .i64 dy, .int .i64 bx, .int .i64 b_]) (.int .i64 1)).run Tryd.prog w = .ok (.agg #[.int .i64 ax, .int .i64 ay, .int .i64 bx, .int .i64 b_, .int .i64 dx, .int .i64 dy]) w := fun _ => by kernel_rfl
  have hix2 : ∀ (w : World), (Instr.index 68 (.agg #[.int .i64 ax, .int .i64 ay, .int .i64 bx, .int .i64 b_, .int .i64 cx, .int .i64 cy, .int .i64 ax, .int .i64 ay, .int .i64 bx, .int .i64 b_, .int .i64 dx, .int .i64 dy, .int .i64 cx, .int .i64 cy, .int .i64 dx, .int .i64 dy, .int .i64 ax, .int .i64 ay, .int .i64 cx, .int .i64 cy, .int .i64 dx, .int .i64 dy, .int .i64 bx, .int .i64 b_]) (.int .i64 2)).run Tryd.prog w = .ok (.agg #[.int .i64 cx, .int .i64 cy, .int .i64 dx, .int .i64 dy, .int .i64 ax, .int .i64 ay]) w := fun _ => by kernel_rfl
  have hix3 : ∀ (w : World), (Instr.index 68 (.agg #[.int .i64 ax, .int .i64 ay, .int .i64 bx, .int .i64 b_, .int .i64 cx, .int .i64 cy, .int .i64 ax, .int .i64 ay, .int .i64 bx, .int .i64 b_, .int .i64 dx, .int .i64 dy, .int .i64 cx, .int .i64 cy, .int .i64 dx, .int .i64 dy, .int .i64 ax, .int .i64 ay, .int .i64 cx, .int .i64 cy, .int .i64 dx, .int .i64 dy, .int .i64 bx, .int .i64 b_]) (.int .i64 3)).run Tryd.prog w = .ok (.agg #[.int .i64 cx, .int .i64 cy, .int .i64 dx, .int .i64 dy, .int .i64 bx, .int .i64 b_]) w := fun _ => by kernel_rfl
  go_enter Tryd.func29, Tryd.ntmps29
  go_wp2_with fail
  have B : Below w.heap.size w ((((w.alloc (.cells #[.int .i64 ax, .int .i64 ay] 28)).alloc (.cells #[.int .i64 bx, .int .i64 b_] 28)).alloc (.cells #[.int .i64 cx, .int .i64 cy] 28)).alloc (.cells #[.int .i64 dx, .int .i64 dy] 28)) := ((((HB0.out.alloc HB0.out.size _).alloc (HB0.out.alloc HB0.out.size _).size _).alloc ((HB0.out.alloc HB0.out.size _).alloc (HB0.out.alloc HB0.out.size _).size _).size _).alloc (((HB0.out.alloc HB0.out.size _).alloc (HB0.out.alloc HB0.out.size _).size _).alloc ((HB0.out.alloc HB0.out.size _).alloc (HB0.out.alloc HB0.out.size _).size _).size _).size _)
  have C : Below w.heap.size w ((((w.alloc (.cells #[.int .i64 ax, .int .i64 ay] 28)).alloc (.cells #[.int .i64 bx, .int .i64 b_] 28)).alloc (.cells #[.int .i64 cx, .int .i64 cy] 28)).alloc (.cells #[.int .i64 dx, .int .i64 dy] 28)) := (((((Below.refl w.heap.size w).alloc (Nat.le_refl _) _).alloc (by simp; try omega) _).alloc (by simp; try omega) _).alloc (by simp; try omega) _)
  have X0 : Bx ((((w.alloc (.cells #[.int .i64 ax, .int .i64 ay] 28)).alloc (.cells #[.int .i64 bx, .int .i64 b_] 28)).alloc (.cells #[.int .i64 cx, .int .i64 cy] 28)).alloc (.cells #[.int .i64 dx, .int .i64 dy] 28)) (w.heap.size) #[.int .i64 ax, .int .i64 ay] 28 := by simpa using ((((Bx.new w #[.int .i64 ax, .int .i64 ay] 28).alloc _).alloc _).alloc _)
  have X1 : Bx ((((w.alloc (.cells #[.int .i64 ax, .int .i64 ay] 28)).alloc (.cells #[.int .i64 bx, .int .i64 b_] 28)).alloc (.cells #[.int .i64 cx, .int .i64 cy] 28)).alloc (.cells #[.int .i64 dx, .int .i64 dy] 28)) (w.heap.size + 1) #[.int .i64 bx, .int .i64 b_] 28 := by simpa using (((Bx.new (w.alloc (.cells #[.int .i64 ax, .int .i64 ay] 28)) #[.int .i64 bx, .int .i64 b_] 28).alloc _).alloc _)
  have X2 : Bx ((((w.alloc (.cells #[.int .i64 ax, .int .i64 ay] 28)).alloc (.cells #[.int .i64 bx, .int .i64 b_] 28)).alloc (.cells #[.int .i64 cx, .int .i64 cy] 28)).alloc (.cells #[.int .i64 dx, .int .i64 dy] 28)) (w.heap.size + 1 + 1) #[.int .i64 cx, .int .i64 cy] 28 := by simpa using ((Bx.new ((w.alloc (.cells #[.int .i64 ax, .int .i64 ay] 28)).alloc (.cells #[.int .i64 bx, .int .i64 b_] 28)) #[.int .i64 cx, .int .i64 cy] 28).alloc _)
  have X3 : Bx ((((w.alloc (.cells #[.int .i64 ax, .int .i64 ay] 28)).alloc (.cells #[.int .i64 bx, .int .i64 b_] 28)).alloc (.cells #[.int .i64 cx, .int .i64 cy] 28)).alloc (.cells #[.int .i64 dx, .int .i64 dy] 28)) (w.heap.size + 1 + 1 + 1) #[.int .i64 dx, .int .i64 dy] 28 := by simpa using (Bx.new (((w.alloc (.cells #[.int .i64 ax, .int .i64 ay] 28)).alloc (.cells #[.int .i64 bx, .int .i64 b_] 28)).alloc (.cells #[.int .i64 cx, .int .i64 cy] 28)) #[.int .i64 dx, .int .i64 dy] 28)
  have FT_1 := Lib.hid (FT.out.below C (Nat.le_refl _))
  have FO_1 := Lib.hid (FO.out.below C (Nat.le_refl _))
  have HB1 := Lib.hid B
  have FP_1 := Lib.hid X0
  have FQ_1 := Lib.hid X1
  have FR_1 := Lib.hid X2
  have FV_1 := Lib.hid X3
  clear B C X0 X1 X2 X3 HB0 FT FO
  generalize ((((w.alloc (.cells #[.int .i64 ax, .int .i64 ay] 28)).alloc (.cells #[.int .i64 bx, .int .i64 b_] 28)).alloc (.cells #[.int .i64 cx, .int .i64 cy] 28)).alloc (.cells #[.int .i64 dx, .int .i64 dy] 28)) = w1 at *
  skip
  refine (segment_Crosses ax ay bx b_ cx cy dx dy hp _ FT_1.out).mono ?_
  rintro e w2 ⟨rfl, B⟩
  have HB2 := Lib.hid (HB1.out.trans (B.mono HB1.out.size))
  have FT_2 := Lib.hid (FT_1.out.below B (Nat.le_refl _))
  have FO_2 := Lib.hid (FO_1.out.below B (Nat.le_refl _))
  have FP_2 := Lib.hid (FP_1.out.below B (Nat.le_refl _))
  have FQ_2 := Lib.hid (FQ_1.out.below B (Nat.le_refl _))
  have FR_2 := Lib.hid (FR_1.out.below B (Nat.le_refl _))
  have FV_2 := Lib.hid (FV_1.out.below B (Nat.le_refl _))
  clear B  HB1 FT_1 FO_1 FP_1 FQ_1 FR_1 FV_1
  have vP0 := FP_2.out.cell 0 (v := .int .i64 ax) rfl
  have vP1 := FP_2.out.cell 1 (v := .int .i64 ay) rfl
  have vQ0 := FQ_2.out.cell 0 (v := .int .i64 bx) rfl
  have vQ1 := FQ_2.out.cell 1 (v := .int .i64 b_) rfl
  have vR0 := FR_2.out.cell 0 (v := .int .i64 cx) rfl
  have vR1 := FR_2.out.cell 1 (v := .int .i64 cy) rfl
  have vV0 := FV_2.out.cell 0 (v := .int .i64 dx) rfl
  have vV1 := FV_2.out.cell 1 (v := .int .i64 dy) rfl
  go_wp2_with fail
  clear vP0 vP1 vQ0 vQ1 vR0 vR1 vV0 vV1
  refine wp_loop_rounds 5 ?_
  rw [rounds_succ]
  go_wp2_with fail
  refine (segment_Contains ax ay bx b_ cx cy ⟨hp.a, hp.b, hp.c, hp.d, hp.e, hp.f⟩ _ (FT_2.out.alloc _) (FO_2.out.alloc _)).mono ?_
  rintro e w3 ⟨rfl, B⟩
  have HB3 := Lib.hid ((HB2.out.alloc HB2.out.size _).trans (B.mono (HB2.out.alloc HB2.out.size _).size))
  have FT_3 := Lib.hid ((FT_2.out.alloc _).below B (Nat.le_refl _))
  have FO_3 := Lib.hid ((FO_2.out.alloc _).below B (Nat.le_refl _))
  clear B  HB2 FT_2 FO_2
  go_wp2_with fail
  refine (segment_some2 _ ((crossB ax ay bx b_ cx cy dx dy)) (contB ax ay bx b_ cx cy) _ (by simp [go_sem]) (by simp [go_sem])).mono ?_
  rintro e w4 ⟨rfl, rfl⟩
  go_wp2_with fail
  rw [rounds_succ]
  go_wp2_with fail
  refine (segment_Contains ax ay bx b_ dx dy ⟨hp.a, hp.b, hp.c, hp.d, hp.g, hp.h⟩ _ ((FT_3.out.alloc _).alloc _) ((FO_3.out.alloc _).alloc _)).mono ?_
  rintro e w5 ⟨rfl, B⟩
  have HB5 := Lib.hid (((HB3.out.alloc HB3.out.size _).alloc (HB3.out.alloc HB3.out.size _).size _).trans (B.mono ((HB3.out.alloc HB3.out.size _).alloc (HB3.out.alloc HB3.out.size _).size _).size))
  have FT_5 := Lib.hid (((FT_3.out.alloc _).alloc _).below B (Nat.le_refl _))
  have FO_5 := Lib.hid (((FO_3.out.alloc _).alloc _).below B (Nat.le_refl _))
  clear B  HB3 FT_3 FO_3
  go_wp2_with fail
  refine (segment_some2 _ (((crossB ax ay bx b_ cx cy dx dy) || contB ax ay bx b_ cx cy)) (contB ax ay bx b_ dx dy) _ (by simp [go_sem]) (by simp [go_sem])).mono ?_
  rintro e w6 ⟨rfl, rfl⟩
  go_wp2_with fail
  rw [rounds_succ]
  go_wp2_with fail
  refine (segment_Contains cx cy dx dy ax ay ⟨hp.e, hp.f, hp.g, hp.h, hp.a, hp.b⟩ _ ((FT_5.out.alloc _).alloc _) ((FO_5.out.alloc _).alloc _)).mono ?_
  rintro e w7 ⟨rfl, B⟩
  have HB7 := Lib.hid (((HB5.out.alloc HB5.out.size _).alloc (HB5.out.alloc HB5.out.size _).size _).trans (B.mono ((HB5.out.alloc HB5.out.size _).alloc (HB5.out.alloc HB5.out.size _).size _).size))
  have FT_7 := Lib.hid (((FT_5.out.alloc _).alloc _).below B (Nat.le_refl _))
  have FO_7 := Lib.hid (((FO_5.out.alloc _).alloc _).below B (Nat.le_refl _))
  clear B  HB5 FT_5 FO_5
  go_wp2_with fail
  refine (segment_some2 _ ((((crossB ax ay bx b_ cx cy dx dy) || contB ax ay bx b_ cx cy) || contB ax ay bx b_ dx dy)) (contB cx cy dx dy ax ay) _ (by simp [go_sem]) (by simp [go_sem])).mono ?_
  rintro e w8 ⟨rfl, rfl⟩
  go_wp2_with fail
  rw [rounds_succ]
  go_wp2_with fail
  refine (segment_Contains cx cy dx dy bx b_ ⟨hp.e, hp.f, hp.g, hp.h, hp.c, hp.d⟩ _ ((FT_7.out.alloc _).alloc _) ((FO_7.out.alloc _).alloc _)).mono ?_
  rintro e w9 ⟨rfl, B⟩
  have HB9 := Lib.hid (((HB7.out.alloc HB7.out.size _).alloc (HB7.out.alloc HB7.out.size _).size _).trans (B.mono ((HB7.out.alloc HB7.out.size _).alloc (HB7.out.alloc HB7.out.size _).size _).size))
  have FT_9 := Lib.hid (((FT_7.out.alloc _).alloc _).below B (Nat.le_refl _))
  have FO_9 := Lib.hid (((FO_7.out.alloc _).alloc _).below B (Nat.le_refl _))
  clear B  HB7 FT_7 FO_7
  go_wp2_with fail
  refine (segment_some2 _ (((((crossB ax ay bx b_ cx cy dx dy) || contB ax ay bx b_ cx cy) || contB ax ay bx b_ dx dy) || contB cx cy dx dy ax ay)) (contB cx cy dx dy bx b_) _ (by simp [go_sem]) (by simp [go_sem])).mono ?_
  rintro e w10 ⟨rfl, rfl⟩
  go_wp2_with fail
  rw [rounds_succ]
  go_wp2_with fail
  go_ret
  exact ⟨rfl, (HB9.out.alloc HB9.out.size _)⟩

end Go.Proofs.YtoikcgmdlccdbaaDoor
