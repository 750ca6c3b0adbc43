/- Contract of the reference of layer 8: Crosses. -/
import Derived.Test.YtoikcgmdlccdbaaDoorRef8b
namespace Go.Proofs.YtoikcgmdlccdbaaDoor
set_option linter.unusedVariables false
set_option linter.unusedSimpArgs false
open Go.RowKit Wd

set_option maxHeartbeats 4000000 in
theorem ref8_Crosses (ax ay bx b_ cx cy dx dy : Int) (hp : P4 ax ay bx b_ cx cy dx dy) (w : World) :
    Calls Tryd.prog 28 #[.agg #[.int .i64 ax, .int .i64 ay], .agg #[.int .i64 bx, .int .i64 b_], .agg #[.int .i64 cx, .int .i64 cy], .agg #[.int .i64 dx, .int .i64 dy]] w fun e w' => e = .returned (.bool (crossB ax ay bx b_ cx cy dx dy)) ∧ Below w.heap.size w w' := by
  have HB0 := Lib.hid (Below.refl w.heap.size w)
  have hr := sg_mul_I (det ax ay bx b_ cx cy) (det ax ay bx b_ dx dy); have hw := wrap_sgm (det ax ay bx b_ cx cy) (det ax ay bx b_ dx dy); have hr2 := sg_mul_I (det cx cy dx dy ax ay) (det cx cy dx dy bx b_); have hw2 := wrap_sgm (det cx cy dx dy ax ay) (det cx cy dx dy bx b_)
  unfold crossB sidesB
  cases hd : decide (sg (det ax ay bx b_ cx cy) * sg (det ax ay bx b_ dx dy) < 0)
  · simp only [Bool.false_and]
    go_enter Tryd.func28, Tryd.ntmps28
    go_wp2_with fail
    have B : Below w.heap.size w ((((w.alloc (.cells #[.int .i64 ax, .int .i64 ay] 28)).alloc (.cells #[.int .i64 bx, .int .i64 b_] 28)).alloc (.cells #[.int .i64 cx, .int .i64 cy] 28)).alloc (.cells #[.int .i64 dx, .int .i64 dy] 28)) := ((((HB0.out.alloc HB0.out.size _).alloc (HB0.out.alloc HB0.out.size _).size _).alloc ((HB0.out.alloc HB0.out.size _).alloc (HB0.out.alloc HB0.out.size _).size _).size _).alloc (((HB0.out.alloc HB0.out.size _).alloc (HB0.out.alloc HB0.out.size _).size _).alloc ((HB0.out.alloc HB0.out.size _).alloc (HB0.out.alloc HB0.out.size _).size _).size _).size _)
    have C : Below w.heap.size w ((((w.alloc (.cells #[.int .i64 ax, .int .i64 ay] 28)).alloc (.cells #[.int .i64 bx, .int .i64 b_] 28)).alloc (.cells #[.int .i64 cx, .int .i64 cy] 28)).alloc (.cells #[.int .i64 dx, .int .i64 dy] 28)) := (((((Below.refl w.heap.size w).alloc (Nat.le_refl _) _).alloc (by simp; try omega) _).alloc (by simp; try omega) _).alloc (by simp; try omega) _)
    have X0 : Bx ((((w.alloc (.cells #[.int .i64 ax, .int .i64 ay] 28)).alloc (.cells #[.int .i64 bx, .int .i64 b_] 28)).alloc (.cells #[.int .i64 cx, .int .i64 cy] 28)).alloc (.cells #[.int .i64 dx, .int .i64 dy] 28)) (w.heap.size) #[.int .i64 ax, .int .i64 ay] 28 := by simpa using ((((Bx.new w #[.int .i64 ax, .int .i64 ay] 28).alloc _).alloc _).alloc _)
    have X1 : Bx ((((w.alloc (.cells #[.int .i64 ax, .int .i64 ay] 28)).alloc (.cells #[.int .i64 bx, .int .i64 b_] 28)).alloc (.cells #[.int .i64 cx, .int .i64 cy] 28)).alloc (.cells #[.int .i64 dx, .int .i64 dy] 28)) (w.heap.size + 1) #[.int .i64 bx, .int .i64 b_] 28 := by simpa using (((Bx.new (w.alloc (.cells #[.int .i64 ax, .int .i64 ay] 28)) #[.int .i64 bx, .int .i64 b_] 28).alloc _).alloc _)
    have X2 : Bx ((((w.alloc (.cells #[.int .i64 ax, .int .i64 ay] 28)).alloc (.cells #[.int .i64 bx, .int .i64 b_] 28)).alloc (.cells #[.int .i64 cx, .int .i64 cy] 28)).alloc (.cells #[.int .i64 dx, .int .i64 dy] 28)) (w.heap.size + 1 + 1) #[.int .i64 cx, .int .i64 cy] 28 := by simpa using ((Bx.new ((w.alloc (.cells #[.int .i64 ax, .int .i64 ay] 28)).alloc (.cells #[.int .i64 bx, .int .i64 b_] 28)) #[.int .i64 cx, .int .i64 cy] 28).alloc _)
    have X3 : Bx ((((w.alloc (.cells #[.int .i64 ax, .int .i64 ay] 28)).alloc (.cells #[.int .i64 bx, .int .i64 b_] 28)).alloc (.cells #[.int .i64 cx, .int .i64 cy] 28)).alloc (.cells #[.int .i64 dx, .int .i64 dy] 28)) (w.heap.size + 1 + 1 + 1) #[.int .i64 dx, .int .i64 dy] 28 := by simpa using (Bx.new (((w.alloc (.cells #[.int .i64 ax, .int .i64 ay] 28)).alloc (.cells #[.int .i64 bx, .int .i64 b_] 28)).alloc (.cells #[.int .i64 cx, .int .i64 cy] 28)) #[.int .i64 dx, .int .i64 dy] 28)
    have HB1 := Lib.hid B
    have FP_1 := Lib.hid X0
    have FQ_1 := Lib.hid X1
    have FR_1 := Lib.hid X2
    have FV_1 := Lib.hid X3
    clear B C X0 X1 X2 X3 HB0 
    generalize ((((w.alloc (.cells #[.int .i64 ax, .int .i64 ay] 28)).alloc (.cells #[.int .i64 bx, .int .i64 b_] 28)).alloc (.cells #[.int .i64 cx, .int .i64 cy] 28)).alloc (.cells #[.int .i64 dx, .int .i64 dy] 28)) = w1 at *
    have RB1 := Lib.hid (below_drew0 w1)
    have QS1 := Lib.hid (show w1.cell? ⟨w.heap.size, 0, none⟩ = some (.int .i64 ax) ∧ w1.cell? ⟨w.heap.size, 1, none⟩ = some (.int .i64 ay) ∧ w1.cell? ⟨w.heap.size + 1, 0, none⟩ = some (.int .i64 bx) ∧ w1.cell? ⟨w.heap.size + 1, 1, none⟩ = some (.int .i64 b_) ∧ w1.cell? ⟨w.heap.size + 1 + 1, 0, none⟩ = some (.int .i64 cx) ∧ w1.cell? ⟨w.heap.size + 1 + 1, 1, none⟩ = some (.int .i64 cy) ∧ w1.cell? ⟨w.heap.size + 1 + 1 + 1, 0, none⟩ = some (.int .i64 dx) ∧ w1.cell? ⟨w.heap.size + 1 + 1 + 1, 1, none⟩ = some (.int .i64 dy) from ⟨FP_1.out.cell 0 (v := .int .i64 ax) rfl, FP_1.out.cell 1 (v := .int .i64 ay) rfl, FQ_1.out.cell 0 (v := .int .i64 bx) rfl, FQ_1.out.cell 1 (v := .int .i64 b_) rfl, FR_1.out.cell 0 (v := .int .i64 cx) rfl, FR_1.out.cell 1 (v := .int .i64 cy) rfl, FV_1.out.cell 0 (v := .int .i64 dx) rfl, FV_1.out.cell 1 (v := .int .i64 dy) rfl⟩)
    have QF1 := Lib.hid (show ∀ w', Below w1.heap.size w1 w' → w'.cell? ⟨w.heap.size, 0, none⟩ = some (.int .i64 ax) ∧ w'.cell? ⟨w.heap.size, 1, none⟩ = some (.int .i64 ay) ∧ w'.cell? ⟨w.heap.size + 1, 0, none⟩ = some (.int .i64 bx) ∧ w'.cell? ⟨w.heap.size + 1, 1, none⟩ = some (.int .i64 b_) ∧ w'.cell? ⟨w.heap.size + 1 + 1, 0, none⟩ = some (.int .i64 cx) ∧ w'.cell? ⟨w.heap.size + 1 + 1, 1, none⟩ = some (.int .i64 cy) ∧ w'.cell? ⟨w.heap.size + 1 + 1 + 1, 0, none⟩ = some (.int .i64 dx) ∧ w'.cell? ⟨w.heap.size + 1 + 1 + 1, 1, none⟩ = some (.int .i64 dy) from fun w' hb => ⟨(FP_1.out.below hb (Nat.le_refl _)).cell 0 (v := .int .i64 ax) rfl, (FP_1.out.below hb (Nat.le_refl _)).cell 1 (v := .int .i64 ay) rfl, (FQ_1.out.below hb (Nat.le_refl _)).cell 0 (v := .int .i64 bx) rfl, (FQ_1.out.below hb (Nat.le_refl _)).cell 1 (v := .int .i64 b_) rfl, (FR_1.out.below hb (Nat.le_refl _)).cell 0 (v := .int .i64 cx) rfl, (FR_1.out.below hb (Nat.le_refl _)).cell 1 (v := .int .i64 cy) rfl, (FV_1.out.below hb (Nat.le_refl _)).cell 0 (v := .int .i64 dx) rfl, (FV_1.out.below hb (Nat.le_refl _)).cell 1 (v := .int .i64 dy) rfl⟩)
    refine wp_region_held_drew (S := fun w' => w'.cell? ⟨w.heap.size, 0, none⟩ = some (.int .i64 ax) ∧ w'.cell? ⟨w.heap.size, 1, none⟩ = some (.int .i64 ay) ∧ w'.cell? ⟨w.heap.size + 1, 0, none⟩ = some (.int .i64 bx) ∧ w'.cell? ⟨w.heap.size + 1, 1, none⟩ = some (.int .i64 b_) ∧ w'.cell? ⟨w.heap.size + 1 + 1, 0, none⟩ = some (.int .i64 cx) ∧ w'.cell? ⟨w.heap.size + 1 + 1, 1, none⟩ = some (.int .i64 cy) ∧ w'.cell? ⟨w.heap.size + 1 + 1 + 1, 0, none⟩ = some (.int .i64 dx) ∧ w'.cell? ⟨w.heap.size + 1 + 1 + 1, 1, none⟩ = some (.int .i64 dy)) (by kernel_rfl) (QF1.out _ RB1.out) (fun hHeld => ?_)
    refine wpAnyH_take (i := 0) (v := ?_) (by simp only [List.getElem?_toArray, List.getElem?_cons_succ, List.getElem?_cons_zero]; rfl) (by kernel_rfl) (by kernel_rfl) (by kernel_rfl) (by intro _ _ _ h; exact h) (Or.inl ⟨by rfl, ?_⟩) hHeld ?_
    rotate_left 1
    · intro w hSw; (try dsimp only at hSw); go_simp; try with_reducible rfl
    try simp only [Act.put, List.setIfInBounds_toArray, List.set_cons_zero, List.set_cons_succ]
    refine wpAnyH_take (i := 1) (v := ?_) (by simp only [List.getElem?_toArray, List.getElem?_cons_succ, List.getElem?_cons_zero]; rfl) (by kernel_rfl) (by kernel_rfl) (by kernel_rfl) (by intro _ _ _ h; exact h) (Or.inl ⟨by rfl, ?_⟩) hHeld ?_
    rotate_left 1
    · intro w hSw; (try dsimp only at hSw); go_simp; try with_reducible rfl
    try simp only [Act.put, List.setIfInBounds_toArray, List.set_cons_zero, List.set_cons_succ]
    refine wpAnyH_take (i := 2) (v := ?_) (by simp only [List.getElem?_toArray, List.getElem?_cons_succ, List.getElem?_cons_zero]; rfl) (by kernel_rfl) (by kernel_rfl) (by kernel_rfl) (by intro _ _ _ h; exact h) (Or.inl ⟨by rfl, ?_⟩) hHeld ?_
    rotate_left 1
    · intro w hSw; (try dsimp only at hSw); go_simp; try with_reducible rfl
    try simp only [Act.put, List.setIfInBounds_toArray, List.set_cons_zero, List.set_cons_succ]
    refine wpAnyH_take (i := 4) (v := ?_) (by simp only [List.getElem?_toArray, List.getElem?_cons_succ, List.getElem?_cons_zero]; rfl) (by kernel_rfl) (by kernel_rfl) (by kernel_rfl) (by intro _ _ _ h; exact h) (Or.inl ⟨by rfl, ?_⟩) hHeld ?_
    rotate_left 1
    · intro w hSw; (try dsimp only at hSw); go_simp; try with_reducible rfl
    try simp only [Act.put, List.setIfInBounds_toArray, List.set_cons_zero, List.set_cons_succ]
    refine wpAnyH_take (i := 5) (v := ?_) (by simp only [List.getElem?_toArray, List.getElem?_cons_succ, List.getElem?_cons_zero]; rfl) (by kernel_rfl) (by kernel_rfl) (by kernel_rfl) (by intro _ _ _ h; exact h) (Or.inl ⟨by rfl, ?_⟩) hHeld ?_
    rotate_left 1
    · intro w hSw; (try dsimp only at hSw); go_simp; try with_reducible rfl
    try simp only [Act.put, List.setIfInBounds_toArray, List.set_cons_zero, List.set_cons_succ]
    refine wpAnyH_take (i := 6) (v := ?_) (by simp only [List.getElem?_toArray, List.getElem?_cons_succ, List.getElem?_cons_zero]; rfl) (by kernel_rfl) (by kernel_rfl) (by kernel_rfl) (by intro _ _ _ h; exact h) (Or.inl ⟨by rfl, ?_⟩) hHeld ?_
    rotate_left 1
    · intro w hSw; (try dsimp only at hSw); go_simp; try with_reducible rfl
    try simp only [Act.put, List.setIfInBounds_toArray, List.set_cons_zero, List.set_cons_succ]
    refine wpAnyH_ready (rs := [3]) (by kernel_rfl) (by simp) ?_
    refine AllReadyH.cons (by simp only [List.getElem?_toArray, List.getElem?_cons_succ, List.getElem?_cons_zero]; rfl) (fun K hK => ?_) AllReadyH.nil
    go_simp
    refine (ref6_Sign ax ay bx b_ cx cy ⟨hp.a, hp.b, hp.c, hp.d, hp.e, hp.f⟩ _).mono ?_
    rintro e w2 ⟨rfl, B⟩
    have RB2 := Lib.hid (RB1.out.trans (B.mono RB1.out.size))
    clear B 
    go_wp2_with fail
    refine hK.out _ _ (QF1.out _ RB2.out) (fun hHeld2 => ?_)
    clear hK K hHeld; have hHeld := hHeld2; clear hHeld2
    try simp only [Act.put, List.setIfInBounds_toArray, List.set_cons_zero, List.set_cons_succ]
    refine wpAnyH_ready (rs := [7]) (by kernel_rfl) (by simp) ?_
    refine AllReadyH.cons (by simp only [List.getElem?_toArray, List.getElem?_cons_succ, List.getElem?_cons_zero]; rfl) (fun K hK => ?_) AllReadyH.nil
    go_simp
    refine (ref6_Sign ax ay bx b_ dx dy ⟨hp.a, hp.b, hp.c, hp.d, hp.g, hp.h⟩ _).mono ?_
    rintro e w3 ⟨rfl, B⟩
    have RB3 := Lib.hid (RB2.out.trans (B.mono RB2.out.size))
    clear B 
    go_wp2_with fail
    refine hK.out _ _ (QF1.out _ RB3.out) (fun hHeld3 => ?_)
    clear hK K hHeld; have hHeld := hHeld3; clear hHeld3
    try simp only [Act.put, List.setIfInBounds_toArray, List.set_cons_zero, List.set_cons_succ]
    refine wpAnyH_take (i := 8) (v := ?_) (by simp only [List.getElem?_toArray, List.getElem?_cons_succ, List.getElem?_cons_zero]; rfl) (by kernel_rfl) (by kernel_rfl) (by kernel_rfl) (by intro _ _ _ h; exact h) (Or.inl ⟨by rfl, ?_⟩) hHeld ?_
    rotate_left 1
    · intro w hSw; (try dsimp only at hSw); go_simp; try with_reducible rfl
    try simp only [Act.put, List.setIfInBounds_toArray, List.set_cons_zero, List.set_cons_succ]
    refine wpAnyH_take (i := 9) (v := ?_) (by simp only [List.getElem?_toArray, List.getElem?_cons_succ, List.getElem?_cons_zero]; rfl) (by kernel_rfl) (by kernel_rfl) (by kernel_rfl) (by intro _ _ _ h; exact h) (Or.inl ⟨by rfl, ?_⟩) hHeld ?_
    rotate_left 1
    · intro w hSw; (try dsimp only at hSw); go_simp; try with_reducible rfl
    try simp only [Act.put, List.setIfInBounds_toArray, List.set_cons_zero, List.set_cons_succ]
    refine wpAnyH_take (i := 10) (v := ?_) (by simp only [List.getElem?_toArray, List.getElem?_cons_succ, List.getElem?_cons_zero]; rfl) (by kernel_rfl) (by kernel_rfl) (by kernel_rfl) (by intro _ _ _ h; exact h) (Or.inl ⟨by rfl, ?_⟩) hHeld ?_
    rotate_left 1
    · intro w hSw; (try dsimp only at hSw); go_simp; try with_reducible rfl
    try simp only [Act.put, List.setIfInBounds_toArray, List.set_cons_zero, List.set_cons_succ]
    refine wpAnyH_take (i := 11) (v := undef) (by simp only [List.getElem?_toArray, List.getElem?_cons_succ, List.getElem?_cons_zero]; rfl) (by kernel_rfl) (by kernel_rfl) (by kernel_rfl) (by intro _ _ _ h; exact h) (Or.inr ⟨by rfl, rfl⟩) hHeld ?_
    try simp only [Act.put, List.setIfInBounds_toArray, List.set_cons_zero, List.set_cons_succ]
    refine wpAnyH_take (i := 12) (v := undef) (by simp only [List.getElem?_toArray, List.getElem?_cons_succ, List.getElem?_cons_zero]; rfl) (by kernel_rfl) (by kernel_rfl) (by kernel_rfl) (by intro _ _ _ h; exact h) (Or.inr ⟨by rfl, rfl⟩) hHeld ?_
    try simp only [Act.put, List.setIfInBounds_toArray, List.set_cons_zero, List.set_cons_succ]
    refine wpAnyH_take (i := 13) (v := undef) (by simp only [List.getElem?_toArray, List.getElem?_cons_succ, List.getElem?_cons_zero]; rfl) (by kernel_rfl) (by kernel_rfl) (by kernel_rfl) (by intro _ _ _ h; exact h) (Or.inr ⟨by rfl, rfl⟩) hHeld ?_
    try simp only [Act.put, List.setIfInBounds_toArray, List.set_cons_zero, List.set_cons_succ]
    refine wpAnyH_take (i := 14) (v := undef) (by simp only [List.getElem?_toArray, List.getElem?_cons_succ, List.getElem?_cons_zero]; rfl) (by kernel_rfl) (by kernel_rfl) (by kernel_rfl) (by intro _ _ _ h; exact h) (Or.inr ⟨by rfl, rfl⟩) hHeld ?_
    try simp only [Act.put, List.setIfInBounds_toArray, List.set_cons_zero, List.set_cons_succ]
    refine wpAnyH_take (i := 15) (v := undef) (by simp only [List.getElem?_toArray, List.getElem?_cons_succ, List.getElem?_cons_zero]; rfl) (by kernel_rfl) (by kernel_rfl) (by kernel_rfl) (by intro _ _ _ h; exact h) (Or.inr ⟨by rfl, rfl⟩) hHeld ?_
    try simp only [Act.put, List.setIfInBounds_toArray, List.set_cons_zero, List.set_cons_succ]
    refine wpAnyH_take (i := 16) (v := undef) (by simp only [List.getElem?_toArray, List.getElem?_cons_succ, List.getElem?_cons_zero]; rfl) (by kernel_rfl) (by kernel_rfl) (by kernel_rfl) (by intro _ _ _ h; exact h) (Or.inr ⟨by rfl, rfl⟩) hHeld ?_
    try simp only [Act.put, List.setIfInBounds_toArray, List.set_cons_zero, List.set_cons_succ]
    refine wpAnyH_take (i := 17) (v := undef) (by simp only [List.getElem?_toArray, List.getElem?_cons_succ, List.getElem?_cons_zero]; rfl) (by kernel_rfl) (by kernel_rfl) (by kernel_rfl) (by intro _ _ _ h; exact h) (Or.inr ⟨by rfl, rfl⟩) hHeld ?_
    try simp only [Act.put, List.setIfInBounds_toArray, List.set_cons_zero, List.set_cons_succ]
    refine wpAnyH_take (i := 18) (v := undef) (by simp only [List.getElem?_toArray, List.getElem?_cons_succ, List.getElem?_cons_zero]; rfl) (by kernel_rfl) (by kernel_rfl) (by kernel_rfl) (by intro _ _ _ h; exact h) (Or.inr ⟨by rfl, rfl⟩) hHeld ?_
    try simp only [Act.put, List.setIfInBounds_toArray, List.set_cons_zero, List.set_cons_succ]
    refine wpAnyH_take (i := 19) (v := undef) (by simp only [List.getElem?_toArray, List.getElem?_cons_succ, List.getElem?_cons_zero]; rfl) (by kernel_rfl) (by kernel_rfl) (by kernel_rfl) (by intro _ _ _ h; exact h) (Or.inr ⟨by rfl, rfl⟩) hHeld ?_
    try simp only [Act.put, List.setIfInBounds_toArray, List.set_cons_zero, List.set_cons_succ]
    refine wpAnyH_take (i := 20) (v := undef) (by simp only [List.getElem?_toArray, List.getElem?_cons_succ, List.getElem?_cons_zero]; rfl) (by kernel_rfl) (by kernel_rfl) (by kernel_rfl) (by intro _ _ _ h; exact h) (Or.inr ⟨by rfl, rfl⟩) hHeld ?_
    try simp only [Act.put, List.setIfInBounds_toArray, List.set_cons_zero, List.set_cons_succ]
    refine wpAnyH_take (i := 21) (v := ?_) (by simp only [List.getElem?_toArray, List.getElem?_cons_succ, List.getElem?_cons_zero]; rfl) (by kernel_rfl) (by kernel_rfl) (by kernel_rfl) (by intro _ _ _ h; exact h) (Or.inl ⟨by rfl, ?_⟩) hHeld ?_
    rotate_left 1
    · intro w hSw; (try dsimp only at hSw); go_simp; try with_reducible rfl
    try simp only [Act.put, List.setIfInBounds_toArray, List.set_cons_zero, List.set_cons_succ]
    refine wpAnyH_take (i := 22) (v := ?_) (by simp only [List.getElem?_toArray, List.getElem?_cons_succ, List.getElem?_cons_zero]; rfl) (by kernel_rfl) (by kernel_rfl) (by kernel_rfl) (by intro _ _ _ h; exact h) (Or.inl ⟨by rfl, ?_⟩) hHeld ?_
    rotate_left 1
    · intro w hSw; (try dsimp only at hSw); go_simp; try with_reducible rfl
    try simp only [Act.put, List.setIfInBounds_toArray, List.set_cons_zero, List.set_cons_succ]
    refine wpAnyH_done (by kernel_rfl) ?_ _
    have FP_3 := Lib.hid (FP_1.out.below RB3.out (Nat.le_refl _))
    have FQ_3 := Lib.hid (FQ_1.out.below RB3.out (Nat.le_refl _))
    have FR_3 := Lib.hid (FR_1.out.below RB3.out (Nat.le_refl _))
    have FV_3 := Lib.hid (FV_1.out.below RB3.out (Nat.le_refl _))
    have HB3 := Lib.hid (HB1.out.trans (RB3.out.mono HB1.out.size))
    clear hHeld HB1 FP_1 FQ_1 FR_1 FV_1
    go_wp2_with fail
    go_ret
    exact ⟨rfl, HB3.out⟩
  · simp only [Bool.true_and]
    go_enter Tryd.func28, Tryd.ntmps28
    go_wp2_with fail
    have B : Below w.heap.size w ((((w.alloc (.cells #[.int .i64 ax, .int .i64 ay] 28)).alloc (.cells #[.int .i64 bx, .int .i64 b_] 28)).alloc (.cells #[.int .i64 cx, .int .i64 cy] 28)).alloc (.cells #[.int .i64 dx, .int .i64 dy] 28)) := ((((HB0.out.alloc HB0.out.size _).alloc (HB0.out.alloc HB0.out.size _).size _).alloc ((HB0.out.alloc HB0.out.size _).alloc (HB0.out.alloc HB0.out.size _).size _).size _).alloc (((HB0.out.alloc HB0.out.size _).alloc (HB0.out.alloc HB0.out.size _).size _).alloc ((HB0.out.alloc HB0.out.size _).alloc (HB0.out.alloc HB0.out.size _).size _).size _).size _)
    have C : Below w.heap.size w ((((w.alloc (.cells #[.int .i64 ax, .int .i64 ay] 28)).alloc (.cells #[.int .i64 bx, .int .i64 b_] 28)).alloc (.cells #[.int .i64 cx, .int .i64 cy] 28)).alloc (.cells #[.int .i64 dx, .int .i64 dy] 28)) := (((((Below.refl w.heap.size w).alloc (Nat.le_refl _) _).alloc (by simp; try omega) _).alloc (by simp; try omega) _).alloc (by simp; try omega) _)
    have X0 : Bx ((((w.alloc (.cells #[.int .i64 ax, .int .i64 ay] 28)).alloc (.cells #[.int .i64 bx, .int .i64 b_] 28)).alloc (.cells #[.int .i64 cx, .int .i64 cy] 28)).alloc (.cells #[.int .i64 dx, .int .i64 dy] 28)) (w.heap.size) #[.int .i64 ax, .int .i64 ay] 28 := by simpa using ((((Bx.new w #[.int .i64 ax, .int .i64 ay] 28).alloc _).alloc _).alloc _)
    have X1 : Bx ((((w.alloc (.cells #[.int .i64 ax, .int .i64 ay] 28)).alloc (.cells #[.int .i64 bx, .int .i64 b_] 28)).alloc (.cells #[.int .i64 cx, .int .i64 cy] 28)).alloc (.cells #[.int .i64 dx, .int .i64 dy] 28)) (w.heap.size + 1) #[.int .i64 bx, .int .i64 b_] 28 := by simpa using (((Bx.new (w.alloc (.cells #[.int .i64 ax, .int .i64 ay] 28)) #[.int .i64 bx, .int .i64 b_] 28).alloc _).alloc _)
    have X2 : Bx ((((w.alloc (.cells #[.int .i64 ax, .int .i64 ay] 28)).alloc (.cells #[.int .i64 bx, .int .i64 b_] 28)).alloc (.cells #[.int .i64 cx, .int .i64 cy] 28)).alloc (.cells #[.int .i64 dx, .int .i64 dy] 28)) (w.heap.size + 1 + 1) #[.int .i64 cx, .int .i64 cy] 28 := by simpa using ((Bx.new ((w.alloc (.cells #[.int .i64 ax, .int .i64 ay] 28)).alloc (.cells #[.int .i64 bx, .int .i64 b_] 28)) #[.int .i64 cx, .int .i64 cy] 28).alloc _)
    have X3 : Bx ((((w.alloc (.cells #[.int .i64 ax, .int .i64 ay] 28)).alloc (.cells #[.int .i64 bx, .int .i64 b_] 28)).alloc (.cells #[.int .i64 cx, .int .i64 cy] 28)).alloc (.cells #[.int .i64 dx, .int .i64 dy] 28)) (w.heap.size + 1 + 1 + 1) #[.int .i64 dx, .int .i64 dy] 28 := by simpa using (Bx.new (((w.alloc (.cells #[.int .i64 ax, .int .i64 ay] 28)).alloc (.cells #[.int .i64 bx, .int .i64 b_] 28)).alloc (.cells #[.int .i64 cx, .int .i64 cy] 28)) #[.int .i64 dx, .int .i64 dy] 28)
    have HB1 := Lib.hid B
    have FP_1 := Lib.hid X0
    have FQ_1 := Lib.hid X1
    have FR_1 := Lib.hid X2
    have FV_1 := Lib.hid X3
    clear B C X0 X1 X2 X3 HB0 
    generalize ((((w.alloc (.cells #[.int .i64 ax, .int .i64 ay] 28)).alloc (.cells #[.int .i64 bx, .int .i64 b_] 28)).alloc (.cells #[.int .i64 cx, .int .i64 cy] 28)).alloc (.cells #[.int .i64 dx, .int .i64 dy] 28)) = w1 at *
    have RB1 := Lib.hid (below_drew0 w1)
    have QS1 := Lib.hid (show w1.cell? ⟨w.heap.size, 0, none⟩ = some (.int .i64 ax) ∧ w1.cell? ⟨w.heap.size, 1, none⟩ = some (.int .i64 ay) ∧ w1.cell? ⟨w.heap.size + 1, 0, none⟩ = some (.int .i64 bx) ∧ w1.cell? ⟨w.heap.size + 1, 1, none⟩ = some (.int .i64 b_) ∧ w1.cell? ⟨w.heap.size + 1 + 1, 0, none⟩ = some (.int .i64 cx) ∧ w1.cell? ⟨w.heap.size + 1 + 1, 1, none⟩ = some (.int .i64 cy) ∧ w1.cell? ⟨w.heap.size + 1 + 1 + 1, 0, none⟩ = some (.int .i64 dx) ∧ w1.cell? ⟨w.heap.size + 1 + 1 + 1, 1, none⟩ = some (.int .i64 dy) from ⟨FP_1.out.cell 0 (v := .int .i64 ax) rfl, FP_1.out.cell 1 (v := .int .i64 ay) rfl, FQ_1.out.cell 0 (v := .int .i64 bx) rfl, FQ_1.out.cell 1 (v := .int .i64 b_) rfl, FR_1.out.cell 0 (v := .int .i64 cx) rfl, FR_1.out.cell 1 (v := .int .i64 cy) rfl, FV_1.out.cell 0 (v := .int .i64 dx) rfl, FV_1.out.cell 1 (v := .int .i64 dy) rfl⟩)
    have QF1 := Lib.hid (show ∀ w', Below w1.heap.size w1 w' → w'.cell? ⟨w.heap.size, 0, none⟩ = some (.int .i64 ax) ∧ w'.cell? ⟨w.heap.size, 1, none⟩ = some (.int .i64 ay) ∧ w'.cell? ⟨w.heap.size + 1, 0, none⟩ = some (.int .i64 bx) ∧ w'.cell? ⟨w.heap.size + 1, 1, none⟩ = some (.int .i64 b_) ∧ w'.cell? ⟨w.heap.size + 1 + 1, 0, none⟩ = some (.int .i64 cx) ∧ w'.cell? ⟨w.heap.size + 1 + 1, 1, none⟩ = some (.int .i64 cy) ∧ w'.cell? ⟨w.heap.size + 1 + 1 + 1, 0, none⟩ = some (.int .i64 dx) ∧ w'.cell? ⟨w.heap.size + 1 + 1 + 1, 1, none⟩ = some (.int .i64 dy) from fun w' hb => ⟨(FP_1.out.below hb (Nat.le_refl _)).cell 0 (v := .int .i64 ax) rfl, (FP_1.out.below hb (Nat.le_refl _)).cell 1 (v := .int .i64 ay) rfl, (FQ_1.out.below hb (Nat.le_refl _)).cell 0 (v := .int .i64 bx) rfl, (FQ_1.out.below hb (Nat.le_refl _)).cell 1 (v := .int .i64 b_) rfl, (FR_1.out.below hb (Nat.le_refl _)).cell 0 (v := .int .i64 cx) rfl, (FR_1.out.below hb (Nat.le_refl _)).cell 1 (v := .int .i64 cy) rfl, (FV_1.out.below hb (Nat.le_refl _)).cell 0 (v := .int .i64 dx) rfl, (FV_1.out.below hb (Nat.le_refl _)).cell 1 (v := .int .i64 dy) rfl⟩)
    go_region_held3 (fun w' => w'.cell? ⟨w.heap.size, 0, none⟩ = some (.int .i64 ax) ∧ w'.cell? ⟨w.heap.size, 1, none⟩ = some (.int .i64 ay) ∧ w'.cell? ⟨w.heap.size + 1, 0, none⟩ = some (.int .i64 bx) ∧ w'.cell? ⟨w.heap.size + 1, 1, none⟩ = some (.int .i64 b_) ∧ w'.cell? ⟨w.heap.size + 1 + 1, 0, none⟩ = some (.int .i64 cx) ∧ w'.cell? ⟨w.heap.size + 1 + 1, 1, none⟩ = some (.int .i64 cy) ∧ w'.cell? ⟨w.heap.size + 1 + 1 + 1, 0, none⟩ = some (.int .i64 dx) ∧ w'.cell? ⟨w.heap.size + 1 + 1 + 1, 1, none⟩ = some (.int .i64 dy)) (first | with_reducible exact QF1.out _ RB5.out | with_reducible exact QF1.out _ RB4.out | with_reducible exact QF1.out _ RB3.out | with_reducible exact QF1.out _ RB2.out | with_reducible exact QS1.out | with_reducible exact QF1.out _ RB1.out) (first
          | (go_at_call 59; have := RB4; clear this; refine (ref6_Sign cx cy dx dy bx b_ ⟨hp.e, hp.f, hp.g, hp.h, hp.c, hp.d⟩ _).mono ?_; rintro e w5 ⟨rfl, B⟩; have RB5 := Lib.hid (RB4.out.trans (B.mono RB4.out.size)); clear B )
          | (go_at_call 59; have := RB3; clear this; refine (ref6_Sign cx cy dx dy ax ay ⟨hp.e, hp.f, hp.g, hp.h, hp.a, hp.b⟩ _).mono ?_; rintro e w4 ⟨rfl, B⟩; have RB4 := Lib.hid (RB3.out.trans (B.mono RB3.out.size)); clear B )
          | (go_at_call 59; have := RB2; clear this; refine (ref6_Sign ax ay bx b_ dx dy ⟨hp.a, hp.b, hp.c, hp.d, hp.g, hp.h⟩ _).mono ?_; rintro e w3 ⟨rfl, B⟩; have RB3 := Lib.hid (RB2.out.trans (B.mono RB2.out.size)); clear B )
          | (go_at_call 59; have := RB1; clear this; refine (ref6_Sign ax ay bx b_ cx cy ⟨hp.a, hp.b, hp.c, hp.d, hp.e, hp.f⟩ _).mono ?_; rintro e w2 ⟨rfl, B⟩; have RB2 := Lib.hid (RB1.out.trans (B.mono RB1.out.size)); clear B ))
    have FP_5 := Lib.hid (FP_1.out.below RB5.out (Nat.le_refl _))
    have FQ_5 := Lib.hid (FQ_1.out.below RB5.out (Nat.le_refl _))
    have FR_5 := Lib.hid (FR_1.out.below RB5.out (Nat.le_refl _))
    have FV_5 := Lib.hid (FV_1.out.below RB5.out (Nat.le_refl _))
    have HB5 := Lib.hid (HB1.out.trans (RB5.out.mono HB1.out.size))
    clear HB1 FP_1 FQ_1 FR_1 FV_1
    go_wp2_with fail
    go_ret
    exact ⟨rfl, HB5.out⟩
end Go.Proofs.YtoikcgmdlccdbaaDoor
