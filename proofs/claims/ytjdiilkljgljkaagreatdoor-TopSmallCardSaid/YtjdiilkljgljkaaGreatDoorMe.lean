/- Contracts of the engine's operations 1 and 2: orientation, circle. Contract of the engine's Answer at operations 1 and 2. Contracts of the codec's isAnswer and Respond, and of serve's Handle, at operations 1 and 2. Contract of serve's Handle at operations 1 and 2. Contract of the codec's take at points. Contract of the codec's Decode at requests without regions. -/
import Derived.Test.YtjdiilkljgljkaaGreatDoorMc
import Derived.Test.YtjdiilkljgljkaaGreatDoorMd
import Derived.Deep.RegionHeld3
import Derived.Test.YtjdiilkljgljkaaGreatDoorMb
import Derived.Laws.EntriesVeiled
import Derived.OwnWalk
namespace Go.Proofs.YtjdiilkljgljkaaGreatDoor
set_option linter.unusedVariables false
set_option linter.unusedSimpArgs false
open Go.RowKit Wd

theorem Pts.k {w : World} {B n c : Nat} {f g : Nat → Int} (h : Pts w (Option.some ⟨B, 0, none⟩) n c f g) {i : Nat} (hi : i < n) : w.cell? ⟨B, i * 2, none⟩ = Option.some (.int .i64 (f i)) ∧ w.cell? ⟨B, i * 2 + 1, none⟩ = Option.some (.int .i64 (g i)) := by
  obtain ⟨b, off, e, _, hc⟩ := h.at_ (by omega)
  cases e
  have := hc i hi
  rwa [Nat.zero_add] at this
theorem Pts.x0 {w : World} {B n c : Nat} {f g : Nat → Int} (h : Pts w (Option.some ⟨B, 0, none⟩) n c f g) (hi : 0 < n) : w.cell? ⟨B, 0, none⟩ = Option.some (.int .i64 (f 0)) := (h.k hi).1
theorem Pts.y0 {w : World} {B n c : Nat} {f g : Nat → Int} (h : Pts w (Option.some ⟨B, 0, none⟩) n c f g) (hi : 0 < n) : w.cell? ⟨B, 1, none⟩ = Option.some (.int .i64 (g 0)) := (h.k hi).2
theorem Pts.x1 {w : World} {B n c : Nat} {f g : Nat → Int} (h : Pts w (Option.some ⟨B, 0, none⟩) n c f g) (hi : 1 < n) : w.cell? ⟨B, 2, none⟩ = Option.some (.int .i64 (f 1)) := (h.k hi).1
theorem Pts.y1 {w : World} {B n c : Nat} {f g : Nat → Int} (h : Pts w (Option.some ⟨B, 0, none⟩) n c f g) (hi : 1 < n) : w.cell? ⟨B, 3, none⟩ = Option.some (.int .i64 (g 1)) := (h.k hi).2
theorem Pts.x2 {w : World} {B n c : Nat} {f g : Nat → Int} (h : Pts w (Option.some ⟨B, 0, none⟩) n c f g) (hi : 2 < n) : w.cell? ⟨B, 4, none⟩ = Option.some (.int .i64 (f 2)) := (h.k hi).1
theorem Pts.y2 {w : World} {B n c : Nat} {f g : Nat → Int} (h : Pts w (Option.some ⟨B, 0, none⟩) n c f g) (hi : 2 < n) : w.cell? ⟨B, 5, none⟩ = Option.some (.int .i64 (g 2)) := (h.k hi).2
theorem Pts.x3 {w : World} {B n c : Nat} {f g : Nat → Int} (h : Pts w (Option.some ⟨B, 0, none⟩) n c f g) (hi : 3 < n) : w.cell? ⟨B, 6, none⟩ = Option.some (.int .i64 (f 3)) := (h.k hi).1
theorem Pts.y3 {w : World} {B n c : Nat} {f g : Nat → Int} (h : Pts w (Option.some ⟨B, 0, none⟩) n c f g) (hi : 3 < n) : w.cell? ⟨B, 7, none⟩ = Option.some (.int .i64 (g 3)) := (h.k hi).2
set_option maxHeartbeats 4000000 in
set_option maxRecDepth 100000 in
theorem engine_op1 (op v p : Int) (RA GA Q : Option Addr) (rn rc gn gc qn qc pb c : Nat) (f g : Nat → Int) (w : World) (hT : TabM w) (hp : Pts w (some ⟨pb, 0, none⟩) 3 c f g) :
    Calls Tryz.prog 142 #[.pointer none, .agg #[.int .i64 op, .int .i64 v, .slice RA rn rc, .int .i64 p, .slice GA gn gc, .slice (some ⟨pb, 0, none⟩) 3 c, .slice Q qn qc]] w fun e w' => e = .returned (.int .i64 (sg (det (f 0) (g 0) (f 1) (g 1) (f 2) (g 2)) + 1)) ∧ Below w.heap.size w w' := by
  have HB0 := Lib.hid (Below.refl w.heap.size w); have FT := Lib.hid hT; have FP := Lib.hid hp
  have HP3 := Lib.hid (show P3 (f 0) (g 0) (f 1) (g 1) (f 2) (g 2) from ⟨(hp.isi 0 (by decide)).1, (hp.isi 0 (by decide)).2, (hp.isi 1 (by decide)).1, (hp.isi 1 (by decide)).2, (hp.isi 2 (by decide)).1, (hp.isi 2 (by decide)).2⟩)
  have hr := sg_range (det (f 0) (g 0) (f 1) (g 1) (f 2) (g 2))
  have e1 : IntKind.i64.wrap (sg (det (f 0) (g 0) (f 1) (g 1) (f 2) (g 2)) + 1) = sg (det (f 0) (g 0) (f 1) (g 1) (f 2) (g 2)) + 1 := by rw [IntKind.wrap_i64]; omega
  have hcp := hp.cap; have hmx := hp.max; unfold maxLen at hmx
  have hci : (3 : Int) ≤ (c : Int) := by omega
  clear hT hp hr
  go_enter Tryz.func142, Tryz.ntmps142
  go_wp2_with fail
  have B : Below w.heap.size w (w.alloc (.cells #[.int .i64 op, .int .i64 v, .slice RA rn rc, .int .i64 p, .slice GA gn gc, .slice (some ⟨pb, 0, none⟩) 3 c, .slice Q qn qc] 99)) := (HB0.out.alloc HB0.out.size _)
  have C : Below w.heap.size w (w.alloc (.cells #[.int .i64 op, .int .i64 v, .slice RA rn rc, .int .i64 p, .slice GA gn gc, .slice (some ⟨pb, 0, none⟩) 3 c, .slice Q qn qc] 99)) := ((Below.refl w.heap.size w).alloc (Nat.le_refl _) _)
  have X0 : Bx (w.alloc (.cells #[.int .i64 op, .int .i64 v, .slice RA rn rc, .int .i64 p, .slice GA gn gc, .slice (some ⟨pb, 0, none⟩) 3 c, .slice Q qn qc] 99)) (w.heap.size) #[.int .i64 op, .int .i64 v, .slice RA rn rc, .int .i64 p, .slice GA gn gc, .slice (some ⟨pb, 0, none⟩) 3 c, .slice Q qn qc] 99 := by simpa using (Bx.new w #[.int .i64 op, .int .i64 v, .slice RA rn rc, .int .i64 p, .slice GA gn gc, .slice (some ⟨pb, 0, none⟩) 3 c, .slice Q qn qc] 99)
  have FT_1 := Lib.hid (FT.out.below C (Nat.le_refl _))
  have FP_1 := Lib.hid (FP.out.below C (Nat.le_refl _))
  have HB1 := Lib.hid B
  have FR_1 := Lib.hid X0
  clear B C X0 HB0 FT FP
  generalize (w.alloc (.cells #[.int .i64 op, .int .i64 v, .slice RA rn rc, .int .i64 p, .slice GA gn gc, .slice (some ⟨pb, 0, none⟩) 3 c, .slice Q qn qc] 99)) = w1 at *
  have RB1 := Lib.hid (below_drew0 w1)
  have QF1 := Lib.hid (show ∀ w', Below w1.heap.size w1 w' → w'.cell? ⟨w.heap.size, 5, none⟩ = some (.slice (some ⟨pb, 0, none⟩) 3 c) ∧ w'.cell? ⟨pb, 0, none⟩ = some (.int .i64 (f 0)) ∧ w'.cell? ⟨pb, 1, none⟩ = some (.int .i64 (g 0)) ∧ w'.cell? ⟨pb, 2, none⟩ = some (.int .i64 (f 1)) ∧ w'.cell? ⟨pb, 3, none⟩ = some (.int .i64 (g 1)) ∧ w'.cell? ⟨pb, 4, none⟩ = some (.int .i64 (f 2)) ∧ w'.cell? ⟨pb, 5, none⟩ = some (.int .i64 (g 2)) from fun w' hb => ⟨(FR_1.out.below hb (Nat.le_refl _)).cell 5 (v := .slice (some ⟨pb, 0, none⟩) 3 c) rfl, (FP_1.out.below hb (Nat.le_refl _)).x0 (by decide), (FP_1.out.below hb (Nat.le_refl _)).y0 (by decide), (FP_1.out.below hb (Nat.le_refl _)).x1 (by decide), (FP_1.out.below hb (Nat.le_refl _)).y1 (by decide), (FP_1.out.below hb (Nat.le_refl _)).x2 (by decide), (FP_1.out.below hb (Nat.le_refl _)).y2 (by decide)⟩)
  refine wp_region_held_drew (S := fun w' => w'.cell? ⟨w.heap.size, 5, none⟩ = some (.slice (some ⟨pb, 0, none⟩) 3 c) ∧ w'.cell? ⟨pb, 0, none⟩ = some (.int .i64 (f 0)) ∧ w'.cell? ⟨pb, 1, none⟩ = some (.int .i64 (g 0)) ∧ w'.cell? ⟨pb, 2, none⟩ = some (.int .i64 (f 1)) ∧ w'.cell? ⟨pb, 3, none⟩ = some (.int .i64 (g 1)) ∧ w'.cell? ⟨pb, 4, none⟩ = some (.int .i64 (f 2)) ∧ w'.cell? ⟨pb, 5, none⟩ = some (.int .i64 (g 2))) (by kernel_rfl) (QF1.out _ RB1.out) (fun hHeld => ?_)
  refine wpAnyH_take (i := 0) (v := ?_) (by simp only [List.getElem?_toArray, List.getElem?_cons_succ, List.getElem?_cons_zero]; rfl) (by kernel_rfl) (by kernel_rfl) (by kernel_rfl) (by intro _ _ _ h; exact h) (Or.inl ⟨by rfl, ?_⟩) hHeld ?_
  rotate_left 1
  · intro w hSw; (try dsimp only at hSw); go_simp; try with_reducible rfl
  try simp only [Act.put, List.setIfInBounds_toArray, List.set_cons_zero, List.set_cons_succ]
  refine wpAnyH_take (i := 1) (v := ?_) (by simp only [List.getElem?_toArray, List.getElem?_cons_succ, List.getElem?_cons_zero]; rfl) (by kernel_rfl) (by kernel_rfl) (by kernel_rfl) (by intro _ _ _ h; exact h) (Or.inl ⟨by rfl, ?_⟩) hHeld ?_
  rotate_left 1
  · intro w hSw; (try dsimp only at hSw); go_simp; try with_reducible rfl
  try simp only [Act.put, List.setIfInBounds_toArray, List.set_cons_zero, List.set_cons_succ]
  refine wpAnyH_take (i := 2) (v := ?_) (by simp only [List.getElem?_toArray, List.getElem?_cons_succ, List.getElem?_cons_zero]; rfl) (by kernel_rfl) (by kernel_rfl) (by kernel_rfl) (by intro _ _ _ h; exact h) (Or.inl ⟨by rfl, ?_⟩) hHeld ?_
  rotate_left 1
  · intro w hSw; (try dsimp only at hSw); go_simp; try with_reducible rfl
  try simp only [Act.put, List.setIfInBounds_toArray, List.set_cons_zero, List.set_cons_succ]
  refine wpAnyH_take (i := 3) (v := ?_) (by simp only [List.getElem?_toArray, List.getElem?_cons_succ, List.getElem?_cons_zero]; rfl) (by kernel_rfl) (by kernel_rfl) (by kernel_rfl) (by intro _ _ _ h; exact h) (Or.inl ⟨by rfl, ?_⟩) hHeld ?_
  rotate_left 1
  · intro w hSw; (try dsimp only at hSw); go_simp; try with_reducible rfl
  try simp only [Act.put, List.setIfInBounds_toArray, List.set_cons_zero, List.set_cons_succ]
  refine wpAnyH_take (i := 4) (v := ?_) (by simp only [List.getElem?_toArray, List.getElem?_cons_succ, List.getElem?_cons_zero]; rfl) (by kernel_rfl) (by kernel_rfl) (by kernel_rfl) (by intro _ _ _ h; exact h) (Or.inl ⟨by rfl, ?_⟩) hHeld ?_
  rotate_left 1
  · intro w hSw; (try dsimp only at hSw); go_simp; try with_reducible rfl
  try simp only [Act.put, List.setIfInBounds_toArray, List.set_cons_zero, List.set_cons_succ]
  refine wpAnyH_take (i := 5) (v := ?_) (by simp only [List.getElem?_toArray, List.getElem?_cons_succ, List.getElem?_cons_zero]; rfl) (by kernel_rfl) (by kernel_rfl) (by kernel_rfl) (by intro _ _ _ h; exact h) (Or.inl ⟨by rfl, ?_⟩) hHeld ?_
  rotate_left 1
  · intro w hSw; (try dsimp only at hSw); go_simp; try with_reducible rfl
  try simp only [Act.put, List.setIfInBounds_toArray, List.set_cons_zero, List.set_cons_succ]
  refine wpAnyH_take (i := 6) (v := ?_) (by simp only [List.getElem?_toArray, List.getElem?_cons_succ, List.getElem?_cons_zero]; rfl) (by kernel_rfl) (by kernel_rfl) (by kernel_rfl) (by intro _ _ _ h; exact h) (Or.inl ⟨by rfl, ?_⟩) hHeld ?_
  rotate_left 1
  · intro w hSw; (try dsimp only at hSw); go_simp; try with_reducible rfl
  try simp only [Act.put, List.setIfInBounds_toArray, List.set_cons_zero, List.set_cons_succ]
  refine wpAnyH_take (i := 7) (v := ?_) (by simp only [List.getElem?_toArray, List.getElem?_cons_succ, List.getElem?_cons_zero]; rfl) (by kernel_rfl) (by kernel_rfl) (by kernel_rfl) (by intro _ _ _ h; exact h) (Or.inl ⟨by rfl, ?_⟩) hHeld ?_
  rotate_left 1
  · intro w hSw; (try dsimp only at hSw); go_simp; try with_reducible rfl
  try simp only [Act.put, List.setIfInBounds_toArray, List.set_cons_zero, List.set_cons_succ]
  refine wpAnyH_take (i := 8) (v := ?_) (by simp only [List.getElem?_toArray, List.getElem?_cons_succ, List.getElem?_cons_zero]; rfl) (by kernel_rfl) (by kernel_rfl) (by kernel_rfl) (by intro _ _ _ h; exact h) (Or.inl ⟨by rfl, ?_⟩) hHeld ?_
  rotate_left 1
  · intro w hSw; (try dsimp only at hSw); go_simp; try with_reducible rfl
  try simp only [Act.put, List.setIfInBounds_toArray, List.set_cons_zero, List.set_cons_succ]
  refine wpAnyH_take (i := 9) (v := ?_) (by simp only [List.getElem?_toArray, List.getElem?_cons_succ, List.getElem?_cons_zero]; rfl) (by kernel_rfl) (by kernel_rfl) (by kernel_rfl) (by intro _ _ _ h; exact h) (Or.inl ⟨by rfl, ?_⟩) hHeld ?_
  rotate_left 1
  · intro w hSw; (try dsimp only at hSw); go_simp; try with_reducible rfl
  try simp only [Act.put, List.setIfInBounds_toArray, List.set_cons_zero, List.set_cons_succ]
  refine wpAnyH_take (i := 10) (v := ?_) (by simp only [List.getElem?_toArray, List.getElem?_cons_succ, List.getElem?_cons_zero]; rfl) (by kernel_rfl) (by kernel_rfl) (by kernel_rfl) (by intro _ _ _ h; exact h) (Or.inl ⟨by rfl, ?_⟩) hHeld ?_
  rotate_left 1
  · intro w hSw; (try dsimp only at hSw); go_simp; try with_reducible rfl
  try simp only [Act.put, List.setIfInBounds_toArray, List.set_cons_zero, List.set_cons_succ]
  refine wpAnyH_take (i := 11) (v := ?_) (by simp only [List.getElem?_toArray, List.getElem?_cons_succ, List.getElem?_cons_zero]; rfl) (by kernel_rfl) (by kernel_rfl) (by kernel_rfl) (by intro _ _ _ h; exact h) (Or.inl ⟨by rfl, ?_⟩) hHeld ?_
  rotate_left 1
  · intro w hSw; (try dsimp only at hSw); go_simp; try with_reducible rfl
  try simp only [Act.put, List.setIfInBounds_toArray, List.set_cons_zero, List.set_cons_succ]
  refine wpAnyH_ready (rs := [12]) (by kernel_rfl) (by simp) ?_
  refine AllReadyH.cons (by simp only [List.getElem?_toArray, List.getElem?_cons_succ, List.getElem?_cons_zero]; rfl) (fun K hK => ?_) AllReadyH.nil
  go_simp
  refine (orient_Sign _ _ _ _ _ _ HP3.out _ (FT_1.out.below RB1.out (Nat.le_refl _))).mono ?_
  rintro e w2 ⟨rfl, B⟩
  have RB2 := Lib.hid (RB1.out.trans (B.mono RB1.out.size))
  clear B 
  go_wp2_with fail
  refine hK.out _ _ (QF1.out _ RB2.out) (fun hHeld2 => ?_)
  clear hK K hHeld; have hHeld := hHeld2; clear hHeld2
  try simp only [Act.put, List.setIfInBounds_toArray, List.set_cons_zero, List.set_cons_succ]
  refine wpAnyH_take (i := 13) (v := ?_) (by simp only [List.getElem?_toArray, List.getElem?_cons_succ, List.getElem?_cons_zero]; rfl) (by kernel_rfl) (by kernel_rfl) (by kernel_rfl) (by intro _ _ _ h; exact h) (Or.inl ⟨by rfl, ?_⟩) hHeld ?_
  rotate_left 1
  · intro w hSw; (try dsimp only at hSw); go_simp; try with_reducible rfl
  try simp only [Act.put, List.setIfInBounds_toArray, List.set_cons_zero, List.set_cons_succ]
  refine wpAnyH_take (i := 14) (v := ?_) (by simp only [List.getElem?_toArray, List.getElem?_cons_succ, List.getElem?_cons_zero]; rfl) (by kernel_rfl) (by kernel_rfl) (by kernel_rfl) (by intro _ _ _ h; exact h) (Or.inl ⟨by rfl, ?_⟩) hHeld ?_
  rotate_left 1
  · intro w hSw; (try dsimp only at hSw); go_simp; try with_reducible rfl
  try simp only [Act.put, List.setIfInBounds_toArray, List.set_cons_zero, List.set_cons_succ]
  refine wpAnyH_done (by kernel_rfl) ?_ _
  have FT_2 := Lib.hid (FT_1.out.below RB2.out (Nat.le_refl _))
  have FP_2 := Lib.hid (FP_1.out.below RB2.out (Nat.le_refl _))
  have FR_2 := Lib.hid (FR_1.out.below RB2.out (Nat.le_refl _))
  have HB2 := Lib.hid (HB1.out.trans (RB2.out.mono HB1.out.size))
  clear hHeld HB1 FT_1 FP_1 FR_1
  go_wp2_with fail
  go_ret
  exact ⟨rfl, HB2.out⟩
set_option maxHeartbeats 4000000 in
set_option maxRecDepth 100000 in
theorem engine_op2 (op v p : Int) (RA GA Q : Option Addr) (rn rc gn gc qn qc pb c : Nat) (f g : Nat → Int) (w : World) (hT : TabM w) (hp : Pts w (some ⟨pb, 0, none⟩) 4 c f g) :
    Calls Tryz.prog 143 #[.pointer none, .agg #[.int .i64 op, .int .i64 v, .slice RA rn rc, .int .i64 p, .slice GA gn gc, .slice (some ⟨pb, 0, none⟩) 4 c, .slice Q qn qc]] w fun e w' => e = .returned (.int .i64 (sg (circ (f 0) (g 0) (f 1) (g 1) (f 2) (g 2) (f 3) (g 3)) + 1)) ∧ Below w.heap.size w w' := by
  have HB0 := Lib.hid (Below.refl w.heap.size w); have FT := Lib.hid hT; have FP := Lib.hid hp
  have HP4 := Lib.hid (show P4 (f 0) (g 0) (f 1) (g 1) (f 2) (g 2) (f 3) (g 3) from ⟨(hp.isi 0 (by decide)).1, (hp.isi 0 (by decide)).2, (hp.isi 1 (by decide)).1, (hp.isi 1 (by decide)).2, (hp.isi 2 (by decide)).1, (hp.isi 2 (by decide)).2, (hp.isi 3 (by decide)).1, (hp.isi 3 (by decide)).2⟩)
  have hr := sg_range (circ (f 0) (g 0) (f 1) (g 1) (f 2) (g 2) (f 3) (g 3))
  have e1 : IntKind.i64.wrap (sg (circ (f 0) (g 0) (f 1) (g 1) (f 2) (g 2) (f 3) (g 3)) + 1) = sg (circ (f 0) (g 0) (f 1) (g 1) (f 2) (g 2) (f 3) (g 3)) + 1 := by rw [IntKind.wrap_i64]; omega
  have hcp := hp.cap; have hmx := hp.max; unfold maxLen at hmx
  have hci : (4 : Int) ≤ (c : Int) := by omega
  clear hT hp hr
  go_enter Tryz.func143, Tryz.ntmps143
  go_wp2_with fail
  have B : Below w.heap.size w (w.alloc (.cells #[.int .i64 op, .int .i64 v, .slice RA rn rc, .int .i64 p, .slice GA gn gc, .slice (some ⟨pb, 0, none⟩) 4 c, .slice Q qn qc] 99)) := (HB0.out.alloc HB0.out.size _)
  have C : Below w.heap.size w (w.alloc (.cells #[.int .i64 op, .int .i64 v, .slice RA rn rc, .int .i64 p, .slice GA gn gc, .slice (some ⟨pb, 0, none⟩) 4 c, .slice Q qn qc] 99)) := ((Below.refl w.heap.size w).alloc (Nat.le_refl _) _)
  have X0 : Bx (w.alloc (.cells #[.int .i64 op, .int .i64 v, .slice RA rn rc, .int .i64 p, .slice GA gn gc, .slice (some ⟨pb, 0, none⟩) 4 c, .slice Q qn qc] 99)) (w.heap.size) #[.int .i64 op, .int .i64 v, .slice RA rn rc, .int .i64 p, .slice GA gn gc, .slice (some ⟨pb, 0, none⟩) 4 c, .slice Q qn qc] 99 := by simpa using (Bx.new w #[.int .i64 op, .int .i64 v, .slice RA rn rc, .int .i64 p, .slice GA gn gc, .slice (some ⟨pb, 0, none⟩) 4 c, .slice Q qn qc] 99)
  have FT_1 := Lib.hid (FT.out.below C (Nat.le_refl _))
  have FP_1 := Lib.hid (FP.out.below C (Nat.le_refl _))
  have HB1 := Lib.hid B
  have FR_1 := Lib.hid X0
  clear B C X0 HB0 FT FP
  generalize (w.alloc (.cells #[.int .i64 op, .int .i64 v, .slice RA rn rc, .int .i64 p, .slice GA gn gc, .slice (some ⟨pb, 0, none⟩) 4 c, .slice Q qn qc] 99)) = w1 at *
  have RB1 := Lib.hid (below_drew0 w1)
  have QF1 := Lib.hid (show ∀ w', Below w1.heap.size w1 w' → w'.cell? ⟨w.heap.size, 5, none⟩ = some (.slice (some ⟨pb, 0, none⟩) 4 c) ∧ w'.cell? ⟨pb, 0, none⟩ = some (.int .i64 (f 0)) ∧ w'.cell? ⟨pb, 1, none⟩ = some (.int .i64 (g 0)) ∧ w'.cell? ⟨pb, 2, none⟩ = some (.int .i64 (f 1)) ∧ w'.cell? ⟨pb, 3, none⟩ = some (.int .i64 (g 1)) ∧ w'.cell? ⟨pb, 4, none⟩ = some (.int .i64 (f 2)) ∧ w'.cell? ⟨pb, 5, none⟩ = some (.int .i64 (g 2)) ∧ w'.cell? ⟨pb, 6, none⟩ = some (.int .i64 (f 3)) ∧ w'.cell? ⟨pb, 7, none⟩ = some (.int .i64 (g 3)) from fun w' hb => ⟨(FR_1.out.below hb (Nat.le_refl _)).cell 5 (v := .slice (some ⟨pb, 0, none⟩) 4 c) rfl, (FP_1.out.below hb (Nat.le_refl _)).x0 (by decide), (FP_1.out.below hb (Nat.le_refl _)).y0 (by decide), (FP_1.out.below hb (Nat.le_refl _)).x1 (by decide), (FP_1.out.below hb (Nat.le_refl _)).y1 (by decide), (FP_1.out.below hb (Nat.le_refl _)).x2 (by decide), (FP_1.out.below hb (Nat.le_refl _)).y2 (by decide), (FP_1.out.below hb (Nat.le_refl _)).x3 (by decide), (FP_1.out.below hb (Nat.le_refl _)).y3 (by decide)⟩)
  refine wp_region_held_drew (S := fun w' => w'.cell? ⟨w.heap.size, 5, none⟩ = some (.slice (some ⟨pb, 0, none⟩) 4 c) ∧ w'.cell? ⟨pb, 0, none⟩ = some (.int .i64 (f 0)) ∧ w'.cell? ⟨pb, 1, none⟩ = some (.int .i64 (g 0)) ∧ w'.cell? ⟨pb, 2, none⟩ = some (.int .i64 (f 1)) ∧ w'.cell? ⟨pb, 3, none⟩ = some (.int .i64 (g 1)) ∧ w'.cell? ⟨pb, 4, none⟩ = some (.int .i64 (f 2)) ∧ w'.cell? ⟨pb, 5, none⟩ = some (.int .i64 (g 2)) ∧ w'.cell? ⟨pb, 6, none⟩ = some (.int .i64 (f 3)) ∧ w'.cell? ⟨pb, 7, none⟩ = some (.int .i64 (g 3))) (by kernel_rfl) (QF1.out _ RB1.out) (fun hHeld => ?_)
  refine wpAnyH_take (i := 0) (v := ?_) (by simp only [List.getElem?_toArray, List.getElem?_cons_succ, List.getElem?_cons_zero]; rfl) (by kernel_rfl) (by kernel_rfl) (by kernel_rfl) (by intro _ _ _ h; exact h) (Or.inl ⟨by rfl, ?_⟩) hHeld ?_
  rotate_left 1
  · intro w hSw; (try dsimp only at hSw); go_simp; try with_reducible rfl
  try simp only [Act.put, List.setIfInBounds_toArray, List.set_cons_zero, List.set_cons_succ]
  refine wpAnyH_take (i := 1) (v := ?_) (by simp only [List.getElem?_toArray, List.getElem?_cons_succ, List.getElem?_cons_zero]; rfl) (by kernel_rfl) (by kernel_rfl) (by kernel_rfl) (by intro _ _ _ h; exact h) (Or.inl ⟨by rfl, ?_⟩) hHeld ?_
  rotate_left 1
  · intro w hSw; (try dsimp only at hSw); go_simp; try with_reducible rfl
  try simp only [Act.put, List.setIfInBounds_toArray, List.set_cons_zero, List.set_cons_succ]
  refine wpAnyH_take (i := 2) (v := ?_) (by simp only [List.getElem?_toArray, List.getElem?_cons_succ, List.getElem?_cons_zero]; rfl) (by kernel_rfl) (by kernel_rfl) (by kernel_rfl) (by intro _ _ _ h; exact h) (Or.inl ⟨by rfl, ?_⟩) hHeld ?_
  rotate_left 1
  · intro w hSw; (try dsimp only at hSw); go_simp; try with_reducible rfl
  try simp only [Act.put, List.setIfInBounds_toArray, List.set_cons_zero, List.set_cons_succ]
  refine wpAnyH_take (i := 3) (v := ?_) (by simp only [List.getElem?_toArray, List.getElem?_cons_succ, List.getElem?_cons_zero]; rfl) (by kernel_rfl) (by kernel_rfl) (by kernel_rfl) (by intro _ _ _ h; exact h) (Or.inl ⟨by rfl, ?_⟩) hHeld ?_
  rotate_left 1
  · intro w hSw; (try dsimp only at hSw); go_simp; try with_reducible rfl
  try simp only [Act.put, List.setIfInBounds_toArray, List.set_cons_zero, List.set_cons_succ]
  refine wpAnyH_take (i := 4) (v := ?_) (by simp only [List.getElem?_toArray, List.getElem?_cons_succ, List.getElem?_cons_zero]; rfl) (by kernel_rfl) (by kernel_rfl) (by kernel_rfl) (by intro _ _ _ h; exact h) (Or.inl ⟨by rfl, ?_⟩) hHeld ?_
  rotate_left 1
  · intro w hSw; (try dsimp only at hSw); go_simp; try with_reducible rfl
  try simp only [Act.put, List.setIfInBounds_toArray, List.set_cons_zero, List.set_cons_succ]
  refine wpAnyH_take (i := 5) (v := ?_) (by simp only [List.getElem?_toArray, List.getElem?_cons_succ, List.getElem?_cons_zero]; rfl) (by kernel_rfl) (by kernel_rfl) (by kernel_rfl) (by intro _ _ _ h; exact h) (Or.inl ⟨by rfl, ?_⟩) hHeld ?_
  rotate_left 1
  · intro w hSw; (try dsimp only at hSw); go_simp; try with_reducible rfl
  try simp only [Act.put, List.setIfInBounds_toArray, List.set_cons_zero, List.set_cons_succ]
  refine wpAnyH_take (i := 6) (v := ?_) (by simp only [List.getElem?_toArray, List.getElem?_cons_succ, List.getElem?_cons_zero]; rfl) (by kernel_rfl) (by kernel_rfl) (by kernel_rfl) (by intro _ _ _ h; exact h) (Or.inl ⟨by rfl, ?_⟩) hHeld ?_
  rotate_left 1
  · intro w hSw; (try dsimp only at hSw); go_simp; try with_reducible rfl
  try simp only [Act.put, List.setIfInBounds_toArray, List.set_cons_zero, List.set_cons_succ]
  refine wpAnyH_take (i := 7) (v := ?_) (by simp only [List.getElem?_toArray, List.getElem?_cons_succ, List.getElem?_cons_zero]; rfl) (by kernel_rfl) (by kernel_rfl) (by kernel_rfl) (by intro _ _ _ h; exact h) (Or.inl ⟨by rfl, ?_⟩) hHeld ?_
  rotate_left 1
  · intro w hSw; (try dsimp only at hSw); go_simp; try with_reducible rfl
  try simp only [Act.put, List.setIfInBounds_toArray, List.set_cons_zero, List.set_cons_succ]
  refine wpAnyH_take (i := 8) (v := ?_) (by simp only [List.getElem?_toArray, List.getElem?_cons_succ, List.getElem?_cons_zero]; rfl) (by kernel_rfl) (by kernel_rfl) (by kernel_rfl) (by intro _ _ _ h; exact h) (Or.inl ⟨by rfl, ?_⟩) hHeld ?_
  rotate_left 1
  · intro w hSw; (try dsimp only at hSw); go_simp; try with_reducible rfl
  try simp only [Act.put, List.setIfInBounds_toArray, List.set_cons_zero, List.set_cons_succ]
  refine wpAnyH_take (i := 9) (v := ?_) (by simp only [List.getElem?_toArray, List.getElem?_cons_succ, List.getElem?_cons_zero]; rfl) (by kernel_rfl) (by kernel_rfl) (by kernel_rfl) (by intro _ _ _ h; exact h) (Or.inl ⟨by rfl, ?_⟩) hHeld ?_
  rotate_left 1
  · intro w hSw; (try dsimp only at hSw); go_simp; try with_reducible rfl
  try simp only [Act.put, List.setIfInBounds_toArray, List.set_cons_zero, List.set_cons_succ]
  refine wpAnyH_take (i := 10) (v := ?_) (by simp only [List.getElem?_toArray, List.getElem?_cons_succ, List.getElem?_cons_zero]; rfl) (by kernel_rfl) (by kernel_rfl) (by kernel_rfl) (by intro _ _ _ h; exact h) (Or.inl ⟨by rfl, ?_⟩) hHeld ?_
  rotate_left 1
  · intro w hSw; (try dsimp only at hSw); go_simp; try with_reducible rfl
  try simp only [Act.put, List.setIfInBounds_toArray, List.set_cons_zero, List.set_cons_succ]
  refine wpAnyH_take (i := 11) (v := ?_) (by simp only [List.getElem?_toArray, List.getElem?_cons_succ, List.getElem?_cons_zero]; rfl) (by kernel_rfl) (by kernel_rfl) (by kernel_rfl) (by intro _ _ _ h; exact h) (Or.inl ⟨by rfl, ?_⟩) hHeld ?_
  rotate_left 1
  · intro w hSw; (try dsimp only at hSw); go_simp; try with_reducible rfl
  try simp only [Act.put, List.setIfInBounds_toArray, List.set_cons_zero, List.set_cons_succ]
  refine wpAnyH_take (i := 12) (v := ?_) (by simp only [List.getElem?_toArray, List.getElem?_cons_succ, List.getElem?_cons_zero]; rfl) (by kernel_rfl) (by kernel_rfl) (by kernel_rfl) (by intro _ _ _ h; exact h) (Or.inl ⟨by rfl, ?_⟩) hHeld ?_
  rotate_left 1
  · intro w hSw; (try dsimp only at hSw); go_simp; try with_reducible rfl
  try simp only [Act.put, List.setIfInBounds_toArray, List.set_cons_zero, List.set_cons_succ]
  refine wpAnyH_take (i := 13) (v := ?_) (by simp only [List.getElem?_toArray, List.getElem?_cons_succ, List.getElem?_cons_zero]; rfl) (by kernel_rfl) (by kernel_rfl) (by kernel_rfl) (by intro _ _ _ h; exact h) (Or.inl ⟨by rfl, ?_⟩) hHeld ?_
  rotate_left 1
  · intro w hSw; (try dsimp only at hSw); go_simp; try with_reducible rfl
  try simp only [Act.put, List.setIfInBounds_toArray, List.set_cons_zero, List.set_cons_succ]
  refine wpAnyH_take (i := 14) (v := ?_) (by simp only [List.getElem?_toArray, List.getElem?_cons_succ, List.getElem?_cons_zero]; rfl) (by kernel_rfl) (by kernel_rfl) (by kernel_rfl) (by intro _ _ _ h; exact h) (Or.inl ⟨by rfl, ?_⟩) hHeld ?_
  rotate_left 1
  · intro w hSw; (try dsimp only at hSw); go_simp; try with_reducible rfl
  try simp only [Act.put, List.setIfInBounds_toArray, List.set_cons_zero, List.set_cons_succ]
  refine wpAnyH_take (i := 15) (v := ?_) (by simp only [List.getElem?_toArray, List.getElem?_cons_succ, List.getElem?_cons_zero]; rfl) (by kernel_rfl) (by kernel_rfl) (by kernel_rfl) (by intro _ _ _ h; exact h) (Or.inl ⟨by rfl, ?_⟩) hHeld ?_
  rotate_left 1
  · intro w hSw; (try dsimp only at hSw); go_simp; try with_reducible rfl
  try simp only [Act.put, List.setIfInBounds_toArray, List.set_cons_zero, List.set_cons_succ]
  refine wpAnyH_ready (rs := [16]) (by kernel_rfl) (by simp) ?_
  refine AllReadyH.cons (by simp only [List.getElem?_toArray, List.getElem?_cons_succ, List.getElem?_cons_zero]; rfl) (fun K hK => ?_) AllReadyH.nil
  go_simp
  refine (circle_Sign _ _ _ _ _ _ _ _ HP4.out _ (FT_1.out.below RB1.out (Nat.le_refl _))).mono ?_
  rintro e w2 ⟨rfl, B⟩
  have RB2 := Lib.hid (RB1.out.trans (B.mono RB1.out.size))
  clear B 
  go_wp2_with fail
  refine hK.out _ _ (QF1.out _ RB2.out) (fun hHeld2 => ?_)
  clear hK K hHeld; have hHeld := hHeld2; clear hHeld2
  try simp only [Act.put, List.setIfInBounds_toArray, List.set_cons_zero, List.set_cons_succ]
  refine wpAnyH_take (i := 17) (v := ?_) (by simp only [List.getElem?_toArray, List.getElem?_cons_succ, List.getElem?_cons_zero]; rfl) (by kernel_rfl) (by kernel_rfl) (by kernel_rfl) (by intro _ _ _ h; exact h) (Or.inl ⟨by rfl, ?_⟩) hHeld ?_
  rotate_left 1
  · intro w hSw; (try dsimp only at hSw); go_simp; try with_reducible rfl
  try simp only [Act.put, List.setIfInBounds_toArray, List.set_cons_zero, List.set_cons_succ]
  refine wpAnyH_take (i := 18) (v := ?_) (by simp only [List.getElem?_toArray, List.getElem?_cons_succ, List.getElem?_cons_zero]; rfl) (by kernel_rfl) (by kernel_rfl) (by kernel_rfl) (by intro _ _ _ h; exact h) (Or.inl ⟨by rfl, ?_⟩) hHeld ?_
  rotate_left 1
  · intro w hSw; (try dsimp only at hSw); go_simp; try with_reducible rfl
  try simp only [Act.put, List.setIfInBounds_toArray, List.set_cons_zero, List.set_cons_succ]
  refine wpAnyH_done (by kernel_rfl) ?_ _
  have FT_2 := Lib.hid (FT_1.out.below RB2.out (Nat.le_refl _))
  have FP_2 := Lib.hid (FP_1.out.below RB2.out (Nat.le_refl _))
  have FR_2 := Lib.hid (FR_1.out.below RB2.out (Nat.le_refl _))
  have HB2 := Lib.hid (HB1.out.trans (RB2.out.mono HB1.out.size))
  clear hHeld HB1 FT_1 FP_1 FR_1
  go_wp2_with fail
  go_ret
  exact ⟨rfl, HB2.out⟩
end Go.Proofs.YtjdiilkljgljkaaGreatDoor
namespace Go.Proofs.YtjdiilkljgljkaaGreatDoor
set_option linter.unusedVariables false
set_option linter.unusedSimpArgs false
open Go.RowKit Wd

set_option maxHeartbeats 4000000 in
set_option maxRecDepth 100000 in
theorem engine_Answer1 (Q : Option Addr) (qc pb c : Nat) (f g : Nat → Int) (w : World) (hT : TabM w) (hp : Pts w (some ⟨pb, 0, none⟩) 3 c f g) :
    Calls Tryz.prog 87 #[.pointer none, .agg #[.int .i64 1, .int .i64 0, .slice none 0 0, .int .i64 0, .slice none 0 0, .slice (some ⟨pb, 0, none⟩) 3 c, .slice Q 0 qc]] w fun e w' => e = .returned (.tuple #[.agg #[.int .i64 (sg (det (f 0) (g 0) (f 1) (g 1) (f 2) (g 2)) + 1), .int .i64 0, .slice none 0 0], .int .i64 0]) ∧ Below w.heap.size w w' := by
  have HB0 := Lib.hid (Below.refl w.heap.size w); have FT := Lib.hid hT; have FP := Lib.hid hp; clear hT hp
  go_enter Tryz.func87, Tryz.ntmps87
  go_wp2_with fail
  have B : Below w.heap.size w ((w.alloc (.cells #[.int .i64 1, .int .i64 0, .slice none 0 0, .int .i64 0, .slice none 0 0, .slice (some ⟨pb, 0, none⟩) 3 c, .slice Q 0 qc] 99)).alloc (.cells #[.int .i64 0, .int .i64 0, .slice none 0 0] 102)) := ((HB0.out.alloc HB0.out.size _).alloc (HB0.out.alloc HB0.out.size _).size _)
  have C : Below w.heap.size w ((w.alloc (.cells #[.int .i64 1, .int .i64 0, .slice none 0 0, .int .i64 0, .slice none 0 0, .slice (some ⟨pb, 0, none⟩) 3 c, .slice Q 0 qc] 99)).alloc (.cells #[.int .i64 0, .int .i64 0, .slice none 0 0] 102)) := (((Below.refl w.heap.size w).alloc (Nat.le_refl _) _).alloc (by simp; try omega) _)
  have X0 : Bx ((w.alloc (.cells #[.int .i64 1, .int .i64 0, .slice none 0 0, .int .i64 0, .slice none 0 0, .slice (some ⟨pb, 0, none⟩) 3 c, .slice Q 0 qc] 99)).alloc (.cells #[.int .i64 0, .int .i64 0, .slice none 0 0] 102)) (w.heap.size) #[.int .i64 1, .int .i64 0, .slice none 0 0, .int .i64 0, .slice none 0 0, .slice (some ⟨pb, 0, none⟩) 3 c, .slice Q 0 qc] 99 := by simpa using ((Bx.new w #[.int .i64 1, .int .i64 0, .slice none 0 0, .int .i64 0, .slice none 0 0, .slice (some ⟨pb, 0, none⟩) 3 c, .slice Q 0 qc] 99).alloc _)
  have X1 : Bx ((w.alloc (.cells #[.int .i64 1, .int .i64 0, .slice none 0 0, .int .i64 0, .slice none 0 0, .slice (some ⟨pb, 0, none⟩) 3 c, .slice Q 0 qc] 99)).alloc (.cells #[.int .i64 0, .int .i64 0, .slice none 0 0] 102)) (w.heap.size + 1) #[.int .i64 0, .int .i64 0, .slice none 0 0] 102 := by simpa using (Bx.new (w.alloc (.cells #[.int .i64 1, .int .i64 0, .slice none 0 0, .int .i64 0, .slice none 0 0, .slice (some ⟨pb, 0, none⟩) 3 c, .slice Q 0 qc] 99)) #[.int .i64 0, .int .i64 0, .slice none 0 0] 102)
  have FT_1 := Lib.hid (FT.out.below C (Nat.le_refl _))
  have FP_1 := Lib.hid (FP.out.below C (Nat.le_refl _))
  have HB1 := Lib.hid B
  have FR_1 := Lib.hid X0
  have FZ_1 := Lib.hid X1
  clear B C X0 X1 HB0 FT FP
  generalize ((w.alloc (.cells #[.int .i64 1, .int .i64 0, .slice none 0 0, .int .i64 0, .slice none 0 0, .slice (some ⟨pb, 0, none⟩) 3 c, .slice Q 0 qc] 99)).alloc (.cells #[.int .i64 0, .int .i64 0, .slice none 0 0] 102)) = w1 at *
  have vR0 := FR_1.out.cell 0 (v := .int .i64 1) rfl
  have vR1 := FR_1.out.cell 1 (v := .int .i64 0) rfl
  have vR2 := FR_1.out.cell 2 (v := .slice none 0 0) rfl
  have vR3 := FR_1.out.cell 3 (v := .int .i64 0) rfl
  have vR4 := FR_1.out.cell 4 (v := .slice none 0 0) rfl
  have vR5 := FR_1.out.cell 5 (v := .slice (some ⟨pb, 0, none⟩) 3 c) rfl
  have vR6 := FR_1.out.cell 6 (v := .slice Q 0 qc) rfl
  go_wp2_with fail
  refine (codec_Encode12 1 (by decide) (some ⟨pb, 0, none⟩) c f g Q qc _ FP_1.out).mono ?_
  rintro e w2 ⟨⟨v, rfl⟩, B⟩
  clear vR0 vR1 vR2 vR3 vR4 vR5 vR6
  have HB2 := Lib.hid (HB1.out.trans (B.mono HB1.out.size))
  have FT_2 := Lib.hid (FT_1.out.below B (Nat.le_refl _))
  have FP_2 := Lib.hid (FP_1.out.below B (Nat.le_refl _))
  have FR_2 := Lib.hid (FR_1.out.below B (Nat.le_refl _))
  have FZ_2 := Lib.hid (FZ_1.out.below B (Nat.le_refl _))
  clear B  HB1 FT_1 FP_1 FR_1 FZ_1
  go_wp2_with fail
  have RB2 := Lib.hid (below_drew0 w2)
  refine wp_region_held_drew (S := fun _ => True) (by kernel_rfl) trivial (fun _ => ?_)
  refine wpAnyH_gen [(⟨8, 9, 8, 180, #[.nilFunc], []⟩, fun cs w => cs = #[.func (.func 142) #[] #[]])] [⟨0, 20, fun x w => ∃ m : Nat, x = .map (some m) ∧ OpsM w m⟩, ⟨1, 21, fun z_ _ => z_ = .pointer (some ⟨w.heap.size, 0, none⟩)⟩, ⟨2, 22, fun z_ _ => z_ = .pointer (some ⟨w.heap.size, 0, none⟩)⟩, ⟨3, 23, fun z_ _ => z_ = .int .i64 1⟩, ⟨4, 24, fun z_ _ => z_ = .tuple #[.agg #[.func (.func 142) #[] #[]], .bool true]⟩, ⟨5, 19, fun z_ _ => z_ = .tuple #[.agg #[.func (.func 142) #[] #[]], .bool true]⟩, ⟨6, 25, fun z_ _ => z_ = .agg #[.func (.func 142) #[] #[]]⟩, ⟨7, 26, fun z_ _ => z_ = .bool true⟩, ⟨10, 9, fun z_ _ => z_ = .bool true⟩] (by kernel_rfl) (by kernel_rfl) (fun _ => trivial) ?_ ?_ ?_ ?_ ?_ ?_
  · refine ⟨?_, trivial⟩
    all_goals exact ⟨fun cs => by (dsimp only; repeat (first | exact Stay.const _ | exact Stay.sl _ _ _ _ | exact Stay.nm _ _ _ _ | exact Stay.bx _ _ _ _ | exact Stay.ops _ | refine Stay.ex fun _ => ?_ | refine Stay.and ?_ ?_)), by dsimp only; decide, by simp [NoU]⟩
  · refine ⟨?_, ?_, ?_, ?_, ?_, ?_, ?_, ?_, ?_, trivial⟩
    all_goals (intro x; (dsimp only; repeat (first | exact Stay.const _ | exact Stay.sl _ _ _ _ | exact Stay.nm _ _ _ _ | exact Stay.bx _ _ _ _ | exact Stay.ops _ | refine Stay.ex fun _ => ?_ | refine Stay.and ?_ ?_)))
  · refine ⟨?_, trivial⟩
    all_goals (intro a w K h; refine wpOp_step (by simp only [List.getElem?_toArray, List.getElem?_cons_succ, List.getElem?_cons_zero]; rfl) (fun K' hK => ?_); go_simp; exact hK _ _ h)
  · refine ⟨?_, trivial⟩
    · intro a w B K ht hd hs hb hK
      obtain ⟨x25, hx25, hp25⟩ := hd 6 _ rfl (by kernel_rfl)
      obtain rfl := hp25
      have es25 : a.tmps.getD 25 undef = _ := getD_of hx25; clear hx25
      clear ht hd
      have zc0 := hb.cell 0 (v := .nilFunc) rfl; have zf0 := hb.free 0
      have HK := Lib.hid (hK [.func (.func 142) #[] #[]] rfl (by simp [NoU]) rfl); clear hK hb
      simp only [ptrTo] at hs
      have esB : a.tmps.getD 8 undef = _ := getD_of hs; clear hs
      refine wpOp_step (by simp only [List.getElem?_toArray, List.getElem?_cons_succ, List.getElem?_cons_zero]; rfl) (fun K' hK' => ?_)
      go_simp
      exact hK' _ _ HK.out
  · refine ⟨?_, ?_, ?_, ?_, ?_, ?_, ?_, ?_, ?_, trivial⟩
    · intro a w K hb ht hd hK
      have hbw := Lib.hid (below_tr RB2.out hb); clear hb
      clear ht hd
      have HK := Lib.hid hK; clear hK
      refine wpOp_step (by simp only [List.getElem?_toArray, List.getElem?_cons_succ, List.getElem?_cons_zero]; rfl) (fun K' hK' => ?_)
      have HK' := Lib.hid hK'; clear hK'
      go_simp
      refine (engine_operations _).mono ?_
      rintro e w1 ⟨rfl, hm, B⟩
      go_wp2_with fail
      exact HK'.out _ _ (HK.out _ _ B ⟨_, rfl, hm⟩)
    · intro a w K hb ht hd hK
      have hbw := Lib.hid (below_tr RB2.out hb); clear hb
      have hx3 := (ht 3 rfl).trans rfl
      have es3 : a.tmps.getD 3 undef = _ := getD_of hx3; clear hx3
      clear ht hd
      have HK := Lib.hid hK; clear hK
      refine wpOp_step (by simp only [List.getElem?_toArray, List.getElem?_cons_succ, List.getElem?_cons_zero]; rfl) (fun K' hK' => ?_)
      have HK' := Lib.hid hK'; clear hK'
      go_simp
      exact HK'.out _ _ (HK.out _ _ below_rf rfl)
    · intro a w K hb ht hd hK
      have hbw := Lib.hid (below_tr RB2.out hb); clear hb
      obtain ⟨x21, hx21, hp21⟩ := hd 1 _ rfl (by kernel_rfl)
      obtain rfl := hp21
      have es21 : a.tmps.getD 21 undef = _ := getD_of hx21; clear hx21
      clear ht hd
      have HK := Lib.hid hK; clear hK
      refine wpOp_step (by simp only [List.getElem?_toArray, List.getElem?_cons_succ, List.getElem?_cons_zero]; rfl) (fun K' hK' => ?_)
      have HK' := Lib.hid hK'; clear hK'
      go_simp
      exact HK'.out _ _ (HK.out _ _ below_rf rfl)
    · intro a w K hb ht hd hK
      have hbw := Lib.hid (below_tr RB2.out hb); clear hb
      obtain ⟨x22, hx22, hp22⟩ := hd 2 _ rfl (by kernel_rfl)
      obtain rfl := hp22
      have es22 : a.tmps.getD 22 undef = _ := getD_of hx22; clear hx22
      clear ht hd
      have zc0 := (FR_2.out.below hbw.out (Nat.le_refl _)).cell 0 (v := .int .i64 1) rfl
      have HK := Lib.hid hK; clear hK
      refine wpOp_step (by simp only [List.getElem?_toArray, List.getElem?_cons_succ, List.getElem?_cons_zero]; rfl) (fun K' hK' => ?_)
      have HK' := Lib.hid hK'; clear hK'
      go_simp
      exact HK'.out _ _ (HK.out _ _ below_rf rfl)
    · intro a w K hb ht hd hK
      have hbw := Lib.hid (below_tr RB2.out hb); clear hb
      obtain ⟨x20, hx20, hp20⟩ := hd 0 _ rfl (by kernel_rfl)
      obtain ⟨mb20, rfl, S20⟩ := hp20
      have es20 : a.tmps.getD 20 undef = _ := getD_of hx20; clear hx20
      obtain ⟨x23, hx23, hp23⟩ := hd 3 _ rfl (by kernel_rfl)
      obtain rfl := hp23
      have es23 : a.tmps.getD 23 undef = _ := getD_of hx23; clear hx23
      clear ht hd
      have HK := Lib.hid hK; clear hK
      have hlk := run_lookup_at (P := Tryz.prog) Tryz.underlying182 Tryz.underlying3 w mb20 opE 4 1 (.agg #[.func (.func 142) #[] #[]]) 0 S20 rfl
      refine wpOp_step (by simp only [List.getElem?_toArray, List.getElem?_cons_succ, List.getElem?_cons_zero]; rfl) (fun K' hK' => ?_)
      have HK' := Lib.hid hK'; clear hK'
      go_simp
      exact HK'.out _ _ (HK.out _ _ below_rf rfl)
    · intro a w K hb ht hd hK
      have hbw := Lib.hid (below_tr RB2.out hb); clear hb
      obtain ⟨x24, hx24, hp24⟩ := hd 4 _ rfl (by kernel_rfl)
      obtain rfl := hp24
      have es24 : a.tmps.getD 24 undef = _ := getD_of hx24; clear hx24
      clear ht hd
      have HK := Lib.hid hK; clear hK
      refine wpOp_step (by simp only [List.getElem?_toArray, List.getElem?_cons_succ, List.getElem?_cons_zero]; rfl) (fun K' hK' => ?_)
      have HK' := Lib.hid hK'; clear hK'
      go_simp
      exact HK'.out _ _ (HK.out _ _ below_rf rfl)
    · intro a w K hb ht hd hK
      have hbw := Lib.hid (below_tr RB2.out hb); clear hb
      obtain ⟨x19, hx19, hp19⟩ := hd 5 _ rfl (by kernel_rfl)
      obtain rfl := hp19
      have es19 : a.tmps.getD 19 undef = _ := getD_of hx19; clear hx19
      clear ht hd
      have HK := Lib.hid hK; clear hK
      refine wpOp_step (by simp only [List.getElem?_toArray, List.getElem?_cons_succ, List.getElem?_cons_zero]; rfl) (fun K' hK' => ?_)
      have HK' := Lib.hid hK'; clear hK'
      go_simp
      exact HK'.out _ _ (HK.out _ _ below_rf rfl)
    · intro a w K hb ht hd hK
      have hbw := Lib.hid (below_tr RB2.out hb); clear hb
      obtain ⟨x19, hx19, hp19⟩ := hd 5 _ rfl (by kernel_rfl)
      obtain rfl := hp19
      have es19 : a.tmps.getD 19 undef = _ := getD_of hx19; clear hx19
      clear ht hd
      have HK := Lib.hid hK; clear hK
      refine wpOp_step (by simp only [List.getElem?_toArray, List.getElem?_cons_succ, List.getElem?_cons_zero]; rfl) (fun K' hK' => ?_)
      have HK' := Lib.hid hK'; clear hK'
      go_simp
      exact HK'.out _ _ (HK.out _ _ below_rf rfl)
    · intro a w K hb ht hd hK
      have hbw := Lib.hid (below_tr RB2.out hb); clear hb
      obtain ⟨x26, hx26, hp26⟩ := hd 7 _ rfl (by kernel_rfl)
      obtain rfl := hp26
      have es26 : a.tmps.getD 26 undef = _ := getD_of hx26; clear hx26
      clear ht hd
      have HK := Lib.hid hK; clear hK
      refine wpOp_step (by simp only [List.getElem?_toArray, List.getElem?_cons_succ, List.getElem?_cons_zero]; rfl) (fun K' hK' => ?_)
      have HK' := Lib.hid hK'; clear hK'
      go_simp
      exact HK'.out _ _ (HK.out _ _ below_rf rfl)
  · intro w3 X B hb hv hx hd
    simp only [List.foldl_cons, List.foldl_nil, Act.put, List.setIfInBounds_toArray, List.set_cons_zero, List.set_cons_succ, ptrTo]
    obtain ⟨hv0, hv1, hv2, hv3, hv4, hv5, hv6, hv7, hv10, -⟩ := hv
    obtain ⟨⟨hn8, cs8, hx8, hg8⟩, -⟩ := hx
    clear hd
    have hV0 : (fun x w => ∃ m : Nat, x = .map (some m) ∧ OpsM w m) (X 20) w3 := hv0; clear hv0; have hv0 := hV0; clear hV0; generalize X 20 = X20 at *
    have hV1 : (fun z_ _ => z_ = .pointer (some ⟨w.heap.size, 0, none⟩)) (X 21) w3 := hv1; clear hv1; have hv1 := hV1; clear hV1; generalize X 21 = X21 at *
    have hV2 : (fun z_ _ => z_ = .pointer (some ⟨w.heap.size, 0, none⟩)) (X 22) w3 := hv2; clear hv2; have hv2 := hV2; clear hV2; generalize X 22 = X22 at *
    have hV3 : (fun z_ _ => z_ = .int .i64 1) (X 23) w3 := hv3; clear hv3; have hv3 := hV3; clear hV3; generalize X 23 = X23 at *
    have hV4 : (fun z_ _ => z_ = .tuple #[.agg #[.func (.func 142) #[] #[]], .bool true]) (X 24) w3 := hv4; clear hv4; have hv4 := hV4; clear hV4; generalize X 24 = X24 at *
    have hV5 : (fun z_ _ => z_ = .tuple #[.agg #[.func (.func 142) #[] #[]], .bool true]) (X 19) w3 := hv5; clear hv5; have hv5 := hV5; clear hV5; generalize X 19 = X19 at *
    have hV6 : (fun z_ _ => z_ = .agg #[.func (.func 142) #[] #[]]) (X 25) w3 := hv6; clear hv6; have hv6 := hV6; clear hV6; generalize X 25 = X25 at *
    have hV7 : (fun z_ _ => z_ = .bool true) (X 26) w3 := hv7; clear hv7; have hv7 := hV7; clear hV7; generalize X 26 = X26 at *
    have hV10 : (fun z_ _ => z_ = .bool true) (X 9) w3 := hv10; clear hv10; have hv10 := hV10; clear hV10; generalize X 9 = X9 at *
    have hx8' : Bx w3 (B 8) cs8 180 := hx8; clear hx8; generalize B 8 = b8 at *
    have hn8' : w2.heap.size ≤ b8 := hn8; clear hn8
    clear hv0
    obtain rfl := hv1
    obtain rfl := hv2
    obtain rfl := hv3
    obtain rfl := hv4
    obtain rfl := hv5
    obtain rfl := hv6
    obtain rfl := hv7
    obtain rfl := hv10
    obtain rfl := hg8
    have RC := Lib.hid (below_tr RB2.out hb); clear hb
    have FT_3 := Lib.hid (FT_2.out.below RC.out (Nat.le_refl _))
    have FP_3 := Lib.hid (FP_2.out.below RC.out (Nat.le_refl _))
    have FR_3 := Lib.hid (FR_2.out.below RC.out (Nat.le_refl _))
    have FZ_3 := Lib.hid (FZ_2.out.below RC.out (Nat.le_refl _))
    have HB3 := Lib.hid (HB2.out.trans (RC.out.mono HB2.out.size))
    clear HB2 FT_2 FP_2 FR_2 FZ_2 RC RB2
    have FO := Lib.hid hx8'; clear hx8'
    have k0 := FO.out.cell 0 (v := .func (.func 142) #[] #[]) rfl
    have vR0 := FR_3.out.cell 0 (v := .int .i64 1) rfl
    have vR1 := FR_3.out.cell 1 (v := .int .i64 0) rfl
    have vR2 := FR_3.out.cell 2 (v := .slice none 0 0) rfl
    have vR3 := FR_3.out.cell 3 (v := .int .i64 0) rfl
    have vR4 := FR_3.out.cell 4 (v := .slice none 0 0) rfl
    have vR5 := FR_3.out.cell 5 (v := .slice (some ⟨pb, 0, none⟩) 3 c) rfl
    have vR6 := FR_3.out.cell 6 (v := .slice Q 0 qc) rfl
    go_wp2_with fail
    refine (engine_op1 _ _ _ _ _ _ _ _ _ _ _ _ _ _ f g _ FT_3.out FP_3.out).mono ?_
    rintro e w4 ⟨rfl, B⟩
    clear vR0 vR1 vR2 vR3 vR4 vR5 vR6
    have HB4 := Lib.hid (HB3.out.trans (B.mono HB3.out.size))
    have FT_4 := Lib.hid (FT_3.out.below B (Nat.le_refl _))
    have FP_4 := Lib.hid (FP_3.out.below B (Nat.le_refl _))
    have FR_4 := Lib.hid (FR_3.out.below B (Nat.le_refl _))
    have FZ_4 := Lib.hid (FZ_3.out.below B (Nat.le_refl _))
    have FO_4 := Lib.hid (FO.out.below B (Nat.le_refl _))
    clear B  HB3 FT_3 FP_3 FR_3 FZ_3 FO
    clear k0
    have z0 := FZ_4.out.cell 0 (v := .int .i64 0) rfl; have z1 := FZ_4.out.cell 1 (v := .int .i64 0) rfl; have z2 := FZ_4.out.cell 2 (v := .slice none 0 0) rfl; have y0 := FZ_4.out.free 0; have y1 := FZ_4.out.free 1; have y2 := FZ_4.out.free 2
    go_wp2_with fail
    clear z0 z1 z2 y0 y1 y2
    have HZ := Lib.hid (((FZ_4.out.set 0 (.int .i64 (sg (det (f 0) (g 0) (f 1) (g 1) (f 2) (g 2)) + 1))).set 1 (.int .i64 0)).set 2 (.slice none 0 0))
    have HBE := Lib.hid (((HB4.out.setCell (p := ⟨w.heap.size + 1, 0, none⟩) (by show w.heap.size ≤ w.heap.size + 1; omega) (.int .i64 (sg (det (f 0) (g 0) (f 1) (g 1) (f 2) (g 2)) + 1))).setCell (p := ⟨w.heap.size + 1, 1, none⟩) (by show w.heap.size ≤ w.heap.size + 1; omega) (.int .i64 0)).setCell (p := ⟨w.heap.size + 1, 2, none⟩) (by show w.heap.size ≤ w.heap.size + 1; omega) (.slice none 0 0))
    generalize (((w4.setCell ⟨w.heap.size + 1, 0, none⟩ (.int .i64 (sg (det (f 0) (g 0) (f 1) (g 1) (f 2) (g 2)) + 1))).setCell ⟨w.heap.size + 1, 1, none⟩ (.int .i64 0)).setCell ⟨w.heap.size + 1, 2, none⟩ (.slice none 0 0)) = wz at *
    have q0 := HZ.out.cell 0 (v := .int .i64 (sg (det (f 0) (g 0) (f 1) (g 1) (f 2) (g 2)) + 1)) rfl
    have q1 := HZ.out.cell 1 (v := .int .i64 0) rfl
    have q2 := HZ.out.cell 2 (v := .slice none 0 0) rfl
    refine bodyPost_ret (v := .tuple #[.agg #[.int .i64 (sg (det (f 0) (g 0) (f 1) (g 1) (f 2) (g 2)) + 1), .int .i64 0, .slice none 0 0], .int .i64 0]) (by simp [results, Tryz.results87, go_sem, q0, q1, q2]) rfl ⟨rfl, HBE.out⟩
set_option maxHeartbeats 4000000 in
set_option maxRecDepth 100000 in
theorem engine_Answer2 (Q : Option Addr) (qc pb c : Nat) (f g : Nat → Int) (w : World) (hT : TabM w) (hp : Pts w (some ⟨pb, 0, none⟩) 4 c f g) :
    Calls Tryz.prog 87 #[.pointer none, .agg #[.int .i64 2, .int .i64 0, .slice none 0 0, .int .i64 0, .slice none 0 0, .slice (some ⟨pb, 0, none⟩) 4 c, .slice Q 0 qc]] w fun e w' => e = .returned (.tuple #[.agg #[.int .i64 (sg (circ (f 0) (g 0) (f 1) (g 1) (f 2) (g 2) (f 3) (g 3)) + 1), .int .i64 0, .slice none 0 0], .int .i64 0]) ∧ Below w.heap.size w w' := by
  have HB0 := Lib.hid (Below.refl w.heap.size w); have FT := Lib.hid hT; have FP := Lib.hid hp; clear hT hp
  go_enter Tryz.func87, Tryz.ntmps87
  go_wp2_with fail
  have B : Below w.heap.size w ((w.alloc (.cells #[.int .i64 2, .int .i64 0, .slice none 0 0, .int .i64 0, .slice none 0 0, .slice (some ⟨pb, 0, none⟩) 4 c, .slice Q 0 qc] 99)).alloc (.cells #[.int .i64 0, .int .i64 0, .slice none 0 0] 102)) := ((HB0.out.alloc HB0.out.size _).alloc (HB0.out.alloc HB0.out.size _).size _)
  have C : Below w.heap.size w ((w.alloc (.cells #[.int .i64 2, .int .i64 0, .slice none 0 0, .int .i64 0, .slice none 0 0, .slice (some ⟨pb, 0, none⟩) 4 c, .slice Q 0 qc] 99)).alloc (.cells #[.int .i64 0, .int .i64 0, .slice none 0 0] 102)) := (((Below.refl w.heap.size w).alloc (Nat.le_refl _) _).alloc (by simp; try omega) _)
  have X0 : Bx ((w.alloc (.cells #[.int .i64 2, .int .i64 0, .slice none 0 0, .int .i64 0, .slice none 0 0, .slice (some ⟨pb, 0, none⟩) 4 c, .slice Q 0 qc] 99)).alloc (.cells #[.int .i64 0, .int .i64 0, .slice none 0 0] 102)) (w.heap.size) #[.int .i64 2, .int .i64 0, .slice none 0 0, .int .i64 0, .slice none 0 0, .slice (some ⟨pb, 0, none⟩) 4 c, .slice Q 0 qc] 99 := by simpa using ((Bx.new w #[.int .i64 2, .int .i64 0, .slice none 0 0, .int .i64 0, .slice none 0 0, .slice (some ⟨pb, 0, none⟩) 4 c, .slice Q 0 qc] 99).alloc _)
  have X1 : Bx ((w.alloc (.cells #[.int .i64 2, .int .i64 0, .slice none 0 0, .int .i64 0, .slice none 0 0, .slice (some ⟨pb, 0, none⟩) 4 c, .slice Q 0 qc] 99)).alloc (.cells #[.int .i64 0, .int .i64 0, .slice none 0 0] 102)) (w.heap.size + 1) #[.int .i64 0, .int .i64 0, .slice none 0 0] 102 := by simpa using (Bx.new (w.alloc (.cells #[.int .i64 2, .int .i64 0, .slice none 0 0, .int .i64 0, .slice none 0 0, .slice (some ⟨pb, 0, none⟩) 4 c, .slice Q 0 qc] 99)) #[.int .i64 0, .int .i64 0, .slice none 0 0] 102)
  have FT_1 := Lib.hid (FT.out.below C (Nat.le_refl _))
  have FP_1 := Lib.hid (FP.out.below C (Nat.le_refl _))
  have HB1 := Lib.hid B
  have FR_1 := Lib.hid X0
  have FZ_1 := Lib.hid X1
  clear B C X0 X1 HB0 FT FP
  generalize ((w.alloc (.cells #[.int .i64 2, .int .i64 0, .slice none 0 0, .int .i64 0, .slice none 0 0, .slice (some ⟨pb, 0, none⟩) 4 c, .slice Q 0 qc] 99)).alloc (.cells #[.int .i64 0, .int .i64 0, .slice none 0 0] 102)) = w1 at *
  have vR0 := FR_1.out.cell 0 (v := .int .i64 2) rfl
  have vR1 := FR_1.out.cell 1 (v := .int .i64 0) rfl
  have vR2 := FR_1.out.cell 2 (v := .slice none 0 0) rfl
  have vR3 := FR_1.out.cell 3 (v := .int .i64 0) rfl
  have vR4 := FR_1.out.cell 4 (v := .slice none 0 0) rfl
  have vR5 := FR_1.out.cell 5 (v := .slice (some ⟨pb, 0, none⟩) 4 c) rfl
  have vR6 := FR_1.out.cell 6 (v := .slice Q 0 qc) rfl
  go_wp2_with fail
  refine (codec_Encode12 2 (by decide) (some ⟨pb, 0, none⟩) c f g Q qc _ FP_1.out).mono ?_
  rintro e w2 ⟨⟨v, rfl⟩, B⟩
  clear vR0 vR1 vR2 vR3 vR4 vR5 vR6
  have HB2 := Lib.hid (HB1.out.trans (B.mono HB1.out.size))
  have FT_2 := Lib.hid (FT_1.out.below B (Nat.le_refl _))
  have FP_2 := Lib.hid (FP_1.out.below B (Nat.le_refl _))
  have FR_2 := Lib.hid (FR_1.out.below B (Nat.le_refl _))
  have FZ_2 := Lib.hid (FZ_1.out.below B (Nat.le_refl _))
  clear B  HB1 FT_1 FP_1 FR_1 FZ_1
  go_wp2_with fail
  have RB2 := Lib.hid (below_drew0 w2)
  refine wp_region_held_drew (S := fun _ => True) (by kernel_rfl) trivial (fun _ => ?_)
  refine wpAnyH_gen [(⟨8, 9, 8, 180, #[.nilFunc], []⟩, fun cs w => cs = #[.func (.func 143) #[] #[]])] [⟨0, 20, fun x w => ∃ m : Nat, x = .map (some m) ∧ OpsM w m⟩, ⟨1, 21, fun z_ _ => z_ = .pointer (some ⟨w.heap.size, 0, none⟩)⟩, ⟨2, 22, fun z_ _ => z_ = .pointer (some ⟨w.heap.size, 0, none⟩)⟩, ⟨3, 23, fun z_ _ => z_ = .int .i64 2⟩, ⟨4, 24, fun z_ _ => z_ = .tuple #[.agg #[.func (.func 143) #[] #[]], .bool true]⟩, ⟨5, 19, fun z_ _ => z_ = .tuple #[.agg #[.func (.func 143) #[] #[]], .bool true]⟩, ⟨6, 25, fun z_ _ => z_ = .agg #[.func (.func 143) #[] #[]]⟩, ⟨7, 26, fun z_ _ => z_ = .bool true⟩, ⟨10, 9, fun z_ _ => z_ = .bool true⟩] (by kernel_rfl) (by kernel_rfl) (fun _ => trivial) ?_ ?_ ?_ ?_ ?_ ?_
  · refine ⟨?_, trivial⟩
    all_goals exact ⟨fun cs => by (dsimp only; repeat (first | exact Stay.const _ | exact Stay.sl _ _ _ _ | exact Stay.nm _ _ _ _ | exact Stay.bx _ _ _ _ | exact Stay.ops _ | refine Stay.ex fun _ => ?_ | refine Stay.and ?_ ?_)), by dsimp only; decide, by simp [NoU]⟩
  · refine ⟨?_, ?_, ?_, ?_, ?_, ?_, ?_, ?_, ?_, trivial⟩
    all_goals (intro x; (dsimp only; repeat (first | exact Stay.const _ | exact Stay.sl _ _ _ _ | exact Stay.nm _ _ _ _ | exact Stay.bx _ _ _ _ | exact Stay.ops _ | refine Stay.ex fun _ => ?_ | refine Stay.and ?_ ?_)))
  · refine ⟨?_, trivial⟩
    all_goals (intro a w K h; refine wpOp_step (by simp only [List.getElem?_toArray, List.getElem?_cons_succ, List.getElem?_cons_zero]; rfl) (fun K' hK => ?_); go_simp; exact hK _ _ h)
  · refine ⟨?_, trivial⟩
    · intro a w B K ht hd hs hb hK
      obtain ⟨x25, hx25, hp25⟩ := hd 6 _ rfl (by kernel_rfl)
      obtain rfl := hp25
      have es25 : a.tmps.getD 25 undef = _ := getD_of hx25; clear hx25
      clear ht hd
      have zc0 := hb.cell 0 (v := .nilFunc) rfl; have zf0 := hb.free 0
      have HK := Lib.hid (hK [.func (.func 143) #[] #[]] rfl (by simp [NoU]) rfl); clear hK hb
      simp only [ptrTo] at hs
      have esB : a.tmps.getD 8 undef = _ := getD_of hs; clear hs
      refine wpOp_step (by simp only [List.getElem?_toArray, List.getElem?_cons_succ, List.getElem?_cons_zero]; rfl) (fun K' hK' => ?_)
      go_simp
      exact hK' _ _ HK.out
  · refine ⟨?_, ?_, ?_, ?_, ?_, ?_, ?_, ?_, ?_, trivial⟩
    · intro a w K hb ht hd hK
      have hbw := Lib.hid (below_tr RB2.out hb); clear hb
      clear ht hd
      have HK := Lib.hid hK; clear hK
      refine wpOp_step (by simp only [List.getElem?_toArray, List.getElem?_cons_succ, List.getElem?_cons_zero]; rfl) (fun K' hK' => ?_)
      have HK' := Lib.hid hK'; clear hK'
      go_simp
      refine (engine_operations _).mono ?_
      rintro e w1 ⟨rfl, hm, B⟩
      go_wp2_with fail
      exact HK'.out _ _ (HK.out _ _ B ⟨_, rfl, hm⟩)
    · intro a w K hb ht hd hK
      have hbw := Lib.hid (below_tr RB2.out hb); clear hb
      have hx3 := (ht 3 rfl).trans rfl
      have es3 : a.tmps.getD 3 undef = _ := getD_of hx3; clear hx3
      clear ht hd
      have HK := Lib.hid hK; clear hK
      refine wpOp_step (by simp only [List.getElem?_toArray, List.getElem?_cons_succ, List.getElem?_cons_zero]; rfl) (fun K' hK' => ?_)
      have HK' := Lib.hid hK'; clear hK'
      go_simp
      exact HK'.out _ _ (HK.out _ _ below_rf rfl)
    · intro a w K hb ht hd hK
      have hbw := Lib.hid (below_tr RB2.out hb); clear hb
      obtain ⟨x21, hx21, hp21⟩ := hd 1 _ rfl (by kernel_rfl)
      obtain rfl := hp21
      have es21 : a.tmps.getD 21 undef = _ := getD_of hx21; clear hx21
      clear ht hd
      have HK := Lib.hid hK; clear hK
      refine wpOp_step (by simp only [List.getElem?_toArray, List.getElem?_cons_succ, List.getElem?_cons_zero]; rfl) (fun K' hK' => ?_)
      have HK' := Lib.hid hK'; clear hK'
      go_simp
      exact HK'.out _ _ (HK.out _ _ below_rf rfl)
    · intro a w K hb ht hd hK
      have hbw := Lib.hid (below_tr RB2.out hb); clear hb
      obtain ⟨x22, hx22, hp22⟩ := hd 2 _ rfl (by kernel_rfl)
      obtain rfl := hp22
      have es22 : a.tmps.getD 22 undef = _ := getD_of hx22; clear hx22
      clear ht hd
      have zc0 := (FR_2.out.below hbw.out (Nat.le_refl _)).cell 0 (v := .int .i64 2) rfl
      have HK := Lib.hid hK; clear hK
      refine wpOp_step (by simp only [List.getElem?_toArray, List.getElem?_cons_succ, List.getElem?_cons_zero]; rfl) (fun K' hK' => ?_)
      have HK' := Lib.hid hK'; clear hK'
      go_simp
      exact HK'.out _ _ (HK.out _ _ below_rf rfl)
    · intro a w K hb ht hd hK
      have hbw := Lib.hid (below_tr RB2.out hb); clear hb
      obtain ⟨x20, hx20, hp20⟩ := hd 0 _ rfl (by kernel_rfl)
      obtain ⟨mb20, rfl, S20⟩ := hp20
      have es20 : a.tmps.getD 20 undef = _ := getD_of hx20; clear hx20
      obtain ⟨x23, hx23, hp23⟩ := hd 3 _ rfl (by kernel_rfl)
      obtain rfl := hp23
      have es23 : a.tmps.getD 23 undef = _ := getD_of hx23; clear hx23
      clear ht hd
      have HK := Lib.hid hK; clear hK
      have hlk := run_lookup_at (P := Tryz.prog) Tryz.underlying182 Tryz.underlying3 w mb20 opE 4 2 (.agg #[.func (.func 143) #[] #[]]) 1 S20 rfl
      refine wpOp_step (by simp only [List.getElem?_toArray, List.getElem?_cons_succ, List.getElem?_cons_zero]; rfl) (fun K' hK' => ?_)
      have HK' := Lib.hid hK'; clear hK'
      go_simp
      exact HK'.out _ _ (HK.out _ _ below_rf rfl)
    · intro a w K hb ht hd hK
      have hbw := Lib.hid (below_tr RB2.out hb); clear hb
      obtain ⟨x24, hx24, hp24⟩ := hd 4 _ rfl (by kernel_rfl)
      obtain rfl := hp24
      have es24 : a.tmps.getD 24 undef = _ := getD_of hx24; clear hx24
      clear ht hd
      have HK := Lib.hid hK; clear hK
      refine wpOp_step (by simp only [List.getElem?_toArray, List.getElem?_cons_succ, List.getElem?_cons_zero]; rfl) (fun K' hK' => ?_)
      have HK' := Lib.hid hK'; clear hK'
      go_simp
      exact HK'.out _ _ (HK.out _ _ below_rf rfl)
    · intro a w K hb ht hd hK
      have hbw := Lib.hid (below_tr RB2.out hb); clear hb
      obtain ⟨x19, hx19, hp19⟩ := hd 5 _ rfl (by kernel_rfl)
      obtain rfl := hp19
      have es19 : a.tmps.getD 19 undef = _ := getD_of hx19; clear hx19
      clear ht hd
      have HK := Lib.hid hK; clear hK
      refine wpOp_step (by simp only [List.getElem?_toArray, List.getElem?_cons_succ, List.getElem?_cons_zero]; rfl) (fun K' hK' => ?_)
      have HK' := Lib.hid hK'; clear hK'
      go_simp
      exact HK'.out _ _ (HK.out _ _ below_rf rfl)
    · intro a w K hb ht hd hK
      have hbw := Lib.hid (below_tr RB2.out hb); clear hb
      obtain ⟨x19, hx19, hp19⟩ := hd 5 _ rfl (by kernel_rfl)
      obtain rfl := hp19
      have es19 : a.tmps.getD 19 undef = _ := getD_of hx19; clear hx19
      clear ht hd
      have HK := Lib.hid hK; clear hK
      refine wpOp_step (by simp only [List.getElem?_toArray, List.getElem?_cons_succ, List.getElem?_cons_zero]; rfl) (fun K' hK' => ?_)
      have HK' := Lib.hid hK'; clear hK'
      go_simp
      exact HK'.out _ _ (HK.out _ _ below_rf rfl)
    · intro a w K hb ht hd hK
      have hbw := Lib.hid (below_tr RB2.out hb); clear hb
      obtain ⟨x26, hx26, hp26⟩ := hd 7 _ rfl (by kernel_rfl)
      obtain rfl := hp26
      have es26 : a.tmps.getD 26 undef = _ := getD_of hx26; clear hx26
      clear ht hd
      have HK := Lib.hid hK; clear hK
      refine wpOp_step (by simp only [List.getElem?_toArray, List.getElem?_cons_succ, List.getElem?_cons_zero]; rfl) (fun K' hK' => ?_)
      have HK' := Lib.hid hK'; clear hK'
      go_simp
      exact HK'.out _ _ (HK.out _ _ below_rf rfl)
  · intro w3 X B hb hv hx hd
    simp only [List.foldl_cons, List.foldl_nil, Act.put, List.setIfInBounds_toArray, List.set_cons_zero, List.set_cons_succ, ptrTo]
    obtain ⟨hv0, hv1, hv2, hv3, hv4, hv5, hv6, hv7, hv10, -⟩ := hv
    obtain ⟨⟨hn8, cs8, hx8, hg8⟩, -⟩ := hx
    clear hd
    have hV0 : (fun x w => ∃ m : Nat, x = .map (some m) ∧ OpsM w m) (X 20) w3 := hv0; clear hv0; have hv0 := hV0; clear hV0; generalize X 20 = X20 at *
    have hV1 : (fun z_ _ => z_ = .pointer (some ⟨w.heap.size, 0, none⟩)) (X 21) w3 := hv1; clear hv1; have hv1 := hV1; clear hV1; generalize X 21 = X21 at *
    have hV2 : (fun z_ _ => z_ = .pointer (some ⟨w.heap.size, 0, none⟩)) (X 22) w3 := hv2; clear hv2; have hv2 := hV2; clear hV2; generalize X 22 = X22 at *
    have hV3 : (fun z_ _ => z_ = .int .i64 2) (X 23) w3 := hv3; clear hv3; have hv3 := hV3; clear hV3; generalize X 23 = X23 at *
    have hV4 : (fun z_ _ => z_ = .tuple #[.agg #[.func (.func 143) #[] #[]], .bool true]) (X 24) w3 := hv4; clear hv4; have hv4 := hV4; clear hV4; generalize X 24 = X24 at *
    have hV5 : (fun z_ _ => z_ = .tuple #[.agg #[.func (.func 143) #[] #[]], .bool true]) (X 19) w3 := hv5; clear hv5; have hv5 := hV5; clear hV5; generalize X 19 = X19 at *
    have hV6 : (fun z_ _ => z_ = .agg #[.func (.func 143) #[] #[]]) (X 25) w3 := hv6; clear hv6; have hv6 := hV6; clear hV6; generalize X 25 = X25 at *
    have hV7 : (fun z_ _ => z_ = .bool true) (X 26) w3 := hv7; clear hv7; have hv7 := hV7; clear hV7; generalize X 26 = X26 at *
    have hV10 : (fun z_ _ => z_ = .bool true) (X 9) w3 := hv10; clear hv10; have hv10 := hV10; clear hV10; generalize X 9 = X9 at *
    have hx8' : Bx w3 (B 8) cs8 180 := hx8; clear hx8; generalize B 8 = b8 at *
    have hn8' : w2.heap.size ≤ b8 := hn8; clear hn8
    clear hv0
    obtain rfl := hv1
    obtain rfl := hv2
    obtain rfl := hv3
    obtain rfl := hv4
    obtain rfl := hv5
    obtain rfl := hv6
    obtain rfl := hv7
    obtain rfl := hv10
    obtain rfl := hg8
    have RC := Lib.hid (below_tr RB2.out hb); clear hb
    have FT_3 := Lib.hid (FT_2.out.below RC.out (Nat.le_refl _))
    have FP_3 := Lib.hid (FP_2.out.below RC.out (Nat.le_refl _))
    have FR_3 := Lib.hid (FR_2.out.below RC.out (Nat.le_refl _))
    have FZ_3 := Lib.hid (FZ_2.out.below RC.out (Nat.le_refl _))
    have HB3 := Lib.hid (HB2.out.trans (RC.out.mono HB2.out.size))
    clear HB2 FT_2 FP_2 FR_2 FZ_2 RC RB2
    have FO := Lib.hid hx8'; clear hx8'
    have k0 := FO.out.cell 0 (v := .func (.func 143) #[] #[]) rfl
    have vR0 := FR_3.out.cell 0 (v := .int .i64 2) rfl
    have vR1 := FR_3.out.cell 1 (v := .int .i64 0) rfl
    have vR2 := FR_3.out.cell 2 (v := .slice none 0 0) rfl
    have vR3 := FR_3.out.cell 3 (v := .int .i64 0) rfl
    have vR4 := FR_3.out.cell 4 (v := .slice none 0 0) rfl
    have vR5 := FR_3.out.cell 5 (v := .slice (some ⟨pb, 0, none⟩) 4 c) rfl
    have vR6 := FR_3.out.cell 6 (v := .slice Q 0 qc) rfl
    go_wp2_with fail
    refine (engine_op2 _ _ _ _ _ _ _ _ _ _ _ _ _ _ f g _ FT_3.out FP_3.out).mono ?_
    rintro e w4 ⟨rfl, B⟩
    clear vR0 vR1 vR2 vR3 vR4 vR5 vR6
    have HB4 := Lib.hid (HB3.out.trans (B.mono HB3.out.size))
    have FT_4 := Lib.hid (FT_3.out.below B (Nat.le_refl _))
    have FP_4 := Lib.hid (FP_3.out.below B (Nat.le_refl _))
    have FR_4 := Lib.hid (FR_3.out.below B (Nat.le_refl _))
    have FZ_4 := Lib.hid (FZ_3.out.below B (Nat.le_refl _))
    have FO_4 := Lib.hid (FO.out.below B (Nat.le_refl _))
    clear B  HB3 FT_3 FP_3 FR_3 FZ_3 FO
    clear k0
    have z0 := FZ_4.out.cell 0 (v := .int .i64 0) rfl; have z1 := FZ_4.out.cell 1 (v := .int .i64 0) rfl; have z2 := FZ_4.out.cell 2 (v := .slice none 0 0) rfl; have y0 := FZ_4.out.free 0; have y1 := FZ_4.out.free 1; have y2 := FZ_4.out.free 2
    go_wp2_with fail
    clear z0 z1 z2 y0 y1 y2
    have HZ := Lib.hid (((FZ_4.out.set 0 (.int .i64 (sg (circ (f 0) (g 0) (f 1) (g 1) (f 2) (g 2) (f 3) (g 3)) + 1))).set 1 (.int .i64 0)).set 2 (.slice none 0 0))
    have HBE := Lib.hid (((HB4.out.setCell (p := ⟨w.heap.size + 1, 0, none⟩) (by show w.heap.size ≤ w.heap.size + 1; omega) (.int .i64 (sg (circ (f 0) (g 0) (f 1) (g 1) (f 2) (g 2) (f 3) (g 3)) + 1))).setCell (p := ⟨w.heap.size + 1, 1, none⟩) (by show w.heap.size ≤ w.heap.size + 1; omega) (.int .i64 0)).setCell (p := ⟨w.heap.size + 1, 2, none⟩) (by show w.heap.size ≤ w.heap.size + 1; omega) (.slice none 0 0))
    generalize (((w4.setCell ⟨w.heap.size + 1, 0, none⟩ (.int .i64 (sg (circ (f 0) (g 0) (f 1) (g 1) (f 2) (g 2) (f 3) (g 3)) + 1))).setCell ⟨w.heap.size + 1, 1, none⟩ (.int .i64 0)).setCell ⟨w.heap.size + 1, 2, none⟩ (.slice none 0 0)) = wz at *
    have q0 := HZ.out.cell 0 (v := .int .i64 (sg (circ (f 0) (g 0) (f 1) (g 1) (f 2) (g 2) (f 3) (g 3)) + 1)) rfl
    have q1 := HZ.out.cell 1 (v := .int .i64 0) rfl
    have q2 := HZ.out.cell 2 (v := .slice none 0 0) rfl
    refine bodyPost_ret (v := .tuple #[.agg #[.int .i64 (sg (circ (f 0) (g 0) (f 1) (g 1) (f 2) (g 2) (f 3) (g 3)) + 1), .int .i64 0, .slice none 0 0], .int .i64 0]) (by simp [results, Tryz.results87, go_sem, q0, q1, q2]) rfl ⟨rfl, HBE.out⟩
end Go.Proofs.YtjdiilkljgljkaaGreatDoor
namespace Go.Proofs.YtjdiilkljgljkaaGreatDoor
set_option linter.unusedVariables false
set_option linter.unusedSimpArgs false
open Go.RowKit Wd

set_option maxHeartbeats 4000000 in
set_option maxRecDepth 100000 in
theorem codec_isAnswer12 (op : Int) (ho : op = 1 ∨ op = 2) (x : Int) (hx : x = 0 ∨ x = 1 ∨ x = 2) (w : World) :
    Calls Tryz.prog 89 #[.agg #[.int .i64 op, .int .i64 0, .slice none 0 0, .int .i64 0], .agg #[.int .i64 x, .int .i64 0, .slice none 0 0]] w fun e w' => e = .returned (.bool true) ∧ Below w.heap.size w w' := by
  rcases ho with rfl | rfl <;> rcases hx with rfl | rfl | rfl
  · go_enter Tryz.func89, Tryz.ntmps89
    go_wp2_with fail
    refine wp_loop_rounds 1 ?_
    rw [rounds_succ]
    go_wp2_with fail
    go_ret
    exact ⟨rfl, by repeat (first | exact below_rf | refine below_al ?_)⟩
  · go_enter Tryz.func89, Tryz.ntmps89
    go_wp2_with fail
    refine wp_loop_rounds 1 ?_
    rw [rounds_succ]
    go_wp2_with fail
    go_ret
    exact ⟨rfl, by repeat (first | exact below_rf | refine below_al ?_)⟩
  · go_enter Tryz.func89, Tryz.ntmps89
    go_wp2_with fail
    refine wp_loop_rounds 1 ?_
    rw [rounds_succ]
    go_wp2_with fail
    go_ret
    exact ⟨rfl, by repeat (first | exact below_rf | refine below_al ?_)⟩
  · go_enter Tryz.func89, Tryz.ntmps89
    go_wp2_with fail
    refine wp_loop_rounds 1 ?_
    rw [rounds_succ]
    go_wp2_with fail
    go_ret
    exact ⟨rfl, by repeat (first | exact below_rf | refine below_al ?_)⟩
  · go_enter Tryz.func89, Tryz.ntmps89
    go_wp2_with fail
    refine wp_loop_rounds 1 ?_
    rw [rounds_succ]
    go_wp2_with fail
    go_ret
    exact ⟨rfl, by repeat (first | exact below_rf | refine below_al ?_)⟩
  · go_enter Tryz.func89, Tryz.ntmps89
    go_wp2_with fail
    refine wp_loop_rounds 1 ?_
    rw [rounds_succ]
    go_wp2_with fail
    go_ret
    exact ⟨rfl, by repeat (first | exact below_rf | refine below_al ?_)⟩
set_option maxHeartbeats 4000000 in
set_option maxRecDepth 100000 in
theorem codec_Respond12 (op : Int) (ho : op = 1 ∨ op = 2) (x : Int) (hx : x = 0 ∨ x = 1 ∨ x = 2) (w : World) :
    Calls Tryz.prog 56 #[.agg #[.int .i64 op, .int .i64 0, .slice none 0 0, .int .i64 0], .agg #[.int .i64 x, .int .i64 0, .slice none 0 0]] w fun e w' => (∃ A c, e = .returned (.tuple #[.slice A 2 c, .int .i64 0]) ∧ By w' A c [0, x]) ∧ Below w.heap.size w w' := by
  rcases ho with rfl | rfl <;> rcases hx with rfl | rfl | rfl
  · go_enter Tryz.func56, Tryz.ntmps56
    go_wp2_with fail
    have HH := Lib.hid (show Bx ((w.alloc (.cells #[.int .i64 1, .int .i64 0, .slice none 0 0, .int .i64 0] 28)).alloc (.cells #[.int .i64 0, .int .i64 0, .slice none 0 0] 102)) w.heap.size #[.int .i64 1, .int .i64 0, .slice none 0 0, .int .i64 0] 28 from (Bx.new _ _ _).alloc _)
    have HA := Lib.hid (show Bx ((w.alloc (.cells #[.int .i64 1, .int .i64 0, .slice none 0 0, .int .i64 0] 28)).alloc (.cells #[.int .i64 0, .int .i64 0, .slice none 0 0] 102)) (w.heap.size + 1) #[.int .i64 0, .int .i64 0, .slice none 0 0] 102 from bx_new (by simp))
    have HB1 := Lib.hid (show Below w.heap.size w ((w.alloc (.cells #[.int .i64 1, .int .i64 0, .slice none 0 0, .int .i64 0] 28)).alloc (.cells #[.int .i64 0, .int .i64 0, .slice none 0 0] 102)) from below_al (below_al below_rf))
    generalize (w.alloc (.cells #[.int .i64 1, .int .i64 0, .slice none 0 0, .int .i64 0] 28)).alloc (.cells #[.int .i64 0, .int .i64 0, .slice none 0 0] 102) = w1 at *
    have c0 := HH.out.cell 0 (v := .int .i64 1) rfl
    have c1 := HH.out.cell 1 (v := .int .i64 0) rfl
    have c2 := HH.out.cell 2 (v := .slice none 0 0) rfl
    have c3 := HH.out.cell 3 (v := .int .i64 0) rfl
    go_wp2_with fail
    clear c0 c1 c2 c3
    refine (header_Format12 1 (by decide) _).mono ?_
    rintro e w2 ⟨⟨v, rfl, ho2⟩, B⟩
    obtain ⟨A', c', rfl⟩ := ho2.slice
    have HH2 := Lib.hid (HH.out.below B (Nat.le_refl _)); have HA2 := Lib.hid (HA.out.below B (Nat.le_refl _)); have HB2 := Lib.hid (HB1.out.trans (B.mono HB1.out.size)); clear B ho2 HH HA HB1
    have c0 := HH2.out.cell 0 (v := .int .i64 1) rfl
    have c1 := HH2.out.cell 1 (v := .int .i64 0) rfl
    have c2 := HH2.out.cell 2 (v := .slice none 0 0) rfl
    have c3 := HH2.out.cell 3 (v := .int .i64 0) rfl
    have a0 := HA2.out.cell 0 (v := .int .i64 0) rfl
    have a1 := HA2.out.cell 1 (v := .int .i64 0) rfl
    have a2 := HA2.out.cell 2 (v := .slice none 0 0) rfl
    go_wp2_with fail
    clear c0 c1 c2 c3 a0 a1 a2
    refine (codec_isAnswer12 1 (by decide) 0 (by decide) _).mono ?_
    rintro e w3 ⟨rfl, B⟩
    have HH3 := Lib.hid (HH2.out.below B (Nat.le_refl _)); have HA3 := Lib.hid (HA2.out.below B (Nat.le_refl _)); have HB3 := Lib.hid (HB2.out.trans (B.mono HB2.out.size)); clear B HH2 HA2 HB2
    have a0 := HA3.out.cell 0 (v := .int .i64 0) rfl
    have c0 := ((HH3.out.alloc (.cells #[.int .u8 0, .int .u8 0] 5)).alloc (.cells #[.slice (some ⟨w3.heap.size, 0, none⟩) 2 2] 142)).cell 0 (v := .int .i64 1) rfl
    have a2 := ((HA3.out.alloc (.cells #[.int .u8 0, .int .u8 0] 5)).alloc (.cells #[.slice (some ⟨w3.heap.size, 0, none⟩) 2 2] 142)).cell 2 (v := .slice none 0 0) rfl
    go_wp2_with fail
    refine (each_recs0 _ _ _ _).mono ?_
    rintro e w4 ⟨rfl, rfl⟩
    go_wp2_with fail
    go_ret2
    refine ⟨⟨_, _, rfl, ?_⟩, (HB3.out.alloc HB3.out.size _).alloc (by have := HB3.out.size; simp; omega) _⟩
    refine ⟨by decide, by decide, fun _ => ⟨w3.heap.size, 0, rfl, (by simp <;> omega), fun i x hi => ?_⟩⟩
    have HBX := ((Bx.new w3 #[.int .u8 0, .int .u8 0] 5).alloc (.cells #[.slice (some ⟨w3.heap.size, 0, none⟩) 2 2] 142))
    match i, hi with
    | 0, hi => simp at hi; subst hi; exact HBX.cell 0 rfl
    | 1, hi => simp at hi; subst hi; exact HBX.cell 1 rfl
    | i + 2, hi => simp at hi
  · go_enter Tryz.func56, Tryz.ntmps56
    go_wp2_with fail
    have HH := Lib.hid (show Bx ((w.alloc (.cells #[.int .i64 1, .int .i64 0, .slice none 0 0, .int .i64 0] 28)).alloc (.cells #[.int .i64 1, .int .i64 0, .slice none 0 0] 102)) w.heap.size #[.int .i64 1, .int .i64 0, .slice none 0 0, .int .i64 0] 28 from (Bx.new _ _ _).alloc _)
    have HA := Lib.hid (show Bx ((w.alloc (.cells #[.int .i64 1, .int .i64 0, .slice none 0 0, .int .i64 0] 28)).alloc (.cells #[.int .i64 1, .int .i64 0, .slice none 0 0] 102)) (w.heap.size + 1) #[.int .i64 1, .int .i64 0, .slice none 0 0] 102 from bx_new (by simp))
    have HB1 := Lib.hid (show Below w.heap.size w ((w.alloc (.cells #[.int .i64 1, .int .i64 0, .slice none 0 0, .int .i64 0] 28)).alloc (.cells #[.int .i64 1, .int .i64 0, .slice none 0 0] 102)) from below_al (below_al below_rf))
    generalize (w.alloc (.cells #[.int .i64 1, .int .i64 0, .slice none 0 0, .int .i64 0] 28)).alloc (.cells #[.int .i64 1, .int .i64 0, .slice none 0 0] 102) = w1 at *
    have c0 := HH.out.cell 0 (v := .int .i64 1) rfl
    have c1 := HH.out.cell 1 (v := .int .i64 0) rfl
    have c2 := HH.out.cell 2 (v := .slice none 0 0) rfl
    have c3 := HH.out.cell 3 (v := .int .i64 0) rfl
    go_wp2_with fail
    clear c0 c1 c2 c3
    refine (header_Format12 1 (by decide) _).mono ?_
    rintro e w2 ⟨⟨v, rfl, ho2⟩, B⟩
    obtain ⟨A', c', rfl⟩ := ho2.slice
    have HH2 := Lib.hid (HH.out.below B (Nat.le_refl _)); have HA2 := Lib.hid (HA.out.below B (Nat.le_refl _)); have HB2 := Lib.hid (HB1.out.trans (B.mono HB1.out.size)); clear B ho2 HH HA HB1
    have c0 := HH2.out.cell 0 (v := .int .i64 1) rfl
    have c1 := HH2.out.cell 1 (v := .int .i64 0) rfl
    have c2 := HH2.out.cell 2 (v := .slice none 0 0) rfl
    have c3 := HH2.out.cell 3 (v := .int .i64 0) rfl
    have a0 := HA2.out.cell 0 (v := .int .i64 1) rfl
    have a1 := HA2.out.cell 1 (v := .int .i64 0) rfl
    have a2 := HA2.out.cell 2 (v := .slice none 0 0) rfl
    go_wp2_with fail
    clear c0 c1 c2 c3 a0 a1 a2
    refine (codec_isAnswer12 1 (by decide) 1 (by decide) _).mono ?_
    rintro e w3 ⟨rfl, B⟩
    have HH3 := Lib.hid (HH2.out.below B (Nat.le_refl _)); have HA3 := Lib.hid (HA2.out.below B (Nat.le_refl _)); have HB3 := Lib.hid (HB2.out.trans (B.mono HB2.out.size)); clear B HH2 HA2 HB2
    have a0 := HA3.out.cell 0 (v := .int .i64 1) rfl
    have c0 := ((HH3.out.alloc (.cells #[.int .u8 0, .int .u8 1] 5)).alloc (.cells #[.slice (some ⟨w3.heap.size, 0, none⟩) 2 2] 142)).cell 0 (v := .int .i64 1) rfl
    have a2 := ((HA3.out.alloc (.cells #[.int .u8 0, .int .u8 1] 5)).alloc (.cells #[.slice (some ⟨w3.heap.size, 0, none⟩) 2 2] 142)).cell 2 (v := .slice none 0 0) rfl
    go_wp2_with fail
    refine (each_recs0 _ _ _ _).mono ?_
    rintro e w4 ⟨rfl, rfl⟩
    go_wp2_with fail
    go_ret2
    refine ⟨⟨_, _, rfl, ?_⟩, (HB3.out.alloc HB3.out.size _).alloc (by have := HB3.out.size; simp; omega) _⟩
    refine ⟨by decide, by decide, fun _ => ⟨w3.heap.size, 0, rfl, (by simp <;> omega), fun i x hi => ?_⟩⟩
    have HBX := ((Bx.new w3 #[.int .u8 0, .int .u8 1] 5).alloc (.cells #[.slice (some ⟨w3.heap.size, 0, none⟩) 2 2] 142))
    match i, hi with
    | 0, hi => simp at hi; subst hi; exact HBX.cell 0 rfl
    | 1, hi => simp at hi; subst hi; exact HBX.cell 1 rfl
    | i + 2, hi => simp at hi
  · go_enter Tryz.func56, Tryz.ntmps56
    go_wp2_with fail
    have HH := Lib.hid (show Bx ((w.alloc (.cells #[.int .i64 1, .int .i64 0, .slice none 0 0, .int .i64 0] 28)).alloc (.cells #[.int .i64 2, .int .i64 0, .slice none 0 0] 102)) w.heap.size #[.int .i64 1, .int .i64 0, .slice none 0 0, .int .i64 0] 28 from (Bx.new _ _ _).alloc _)
    have HA := Lib.hid (show Bx ((w.alloc (.cells #[.int .i64 1, .int .i64 0, .slice none 0 0, .int .i64 0] 28)).alloc (.cells #[.int .i64 2, .int .i64 0, .slice none 0 0] 102)) (w.heap.size + 1) #[.int .i64 2, .int .i64 0, .slice none 0 0] 102 from bx_new (by simp))
    have HB1 := Lib.hid (show Below w.heap.size w ((w.alloc (.cells #[.int .i64 1, .int .i64 0, .slice none 0 0, .int .i64 0] 28)).alloc (.cells #[.int .i64 2, .int .i64 0, .slice none 0 0] 102)) from below_al (below_al below_rf))
    generalize (w.alloc (.cells #[.int .i64 1, .int .i64 0, .slice none 0 0, .int .i64 0] 28)).alloc (.cells #[.int .i64 2, .int .i64 0, .slice none 0 0] 102) = w1 at *
    have c0 := HH.out.cell 0 (v := .int .i64 1) rfl
    have c1 := HH.out.cell 1 (v := .int .i64 0) rfl
    have c2 := HH.out.cell 2 (v := .slice none 0 0) rfl
    have c3 := HH.out.cell 3 (v := .int .i64 0) rfl
    go_wp2_with fail
    clear c0 c1 c2 c3
    refine (header_Format12 1 (by decide) _).mono ?_
    rintro e w2 ⟨⟨v, rfl, ho2⟩, B⟩
    obtain ⟨A', c', rfl⟩ := ho2.slice
    have HH2 := Lib.hid (HH.out.below B (Nat.le_refl _)); have HA2 := Lib.hid (HA.out.below B (Nat.le_refl _)); have HB2 := Lib.hid (HB1.out.trans (B.mono HB1.out.size)); clear B ho2 HH HA HB1
    have c0 := HH2.out.cell 0 (v := .int .i64 1) rfl
    have c1 := HH2.out.cell 1 (v := .int .i64 0) rfl
    have c2 := HH2.out.cell 2 (v := .slice none 0 0) rfl
    have c3 := HH2.out.cell 3 (v := .int .i64 0) rfl
    have a0 := HA2.out.cell 0 (v := .int .i64 2) rfl
    have a1 := HA2.out.cell 1 (v := .int .i64 0) rfl
    have a2 := HA2.out.cell 2 (v := .slice none 0 0) rfl
    go_wp2_with fail
    clear c0 c1 c2 c3 a0 a1 a2
    refine (codec_isAnswer12 1 (by decide) 2 (by decide) _).mono ?_
    rintro e w3 ⟨rfl, B⟩
    have HH3 := Lib.hid (HH2.out.below B (Nat.le_refl _)); have HA3 := Lib.hid (HA2.out.below B (Nat.le_refl _)); have HB3 := Lib.hid (HB2.out.trans (B.mono HB2.out.size)); clear B HH2 HA2 HB2
    have a0 := HA3.out.cell 0 (v := .int .i64 2) rfl
    have c0 := ((HH3.out.alloc (.cells #[.int .u8 0, .int .u8 2] 5)).alloc (.cells #[.slice (some ⟨w3.heap.size, 0, none⟩) 2 2] 142)).cell 0 (v := .int .i64 1) rfl
    have a2 := ((HA3.out.alloc (.cells #[.int .u8 0, .int .u8 2] 5)).alloc (.cells #[.slice (some ⟨w3.heap.size, 0, none⟩) 2 2] 142)).cell 2 (v := .slice none 0 0) rfl
    go_wp2_with fail
    refine (each_recs0 _ _ _ _).mono ?_
    rintro e w4 ⟨rfl, rfl⟩
    go_wp2_with fail
    go_ret2
    refine ⟨⟨_, _, rfl, ?_⟩, (HB3.out.alloc HB3.out.size _).alloc (by have := HB3.out.size; simp; omega) _⟩
    refine ⟨by decide, by decide, fun _ => ⟨w3.heap.size, 0, rfl, (by simp <;> omega), fun i x hi => ?_⟩⟩
    have HBX := ((Bx.new w3 #[.int .u8 0, .int .u8 2] 5).alloc (.cells #[.slice (some ⟨w3.heap.size, 0, none⟩) 2 2] 142))
    match i, hi with
    | 0, hi => simp at hi; subst hi; exact HBX.cell 0 rfl
    | 1, hi => simp at hi; subst hi; exact HBX.cell 1 rfl
    | i + 2, hi => simp at hi
  · go_enter Tryz.func56, Tryz.ntmps56
    go_wp2_with fail
    have HH := Lib.hid (show Bx ((w.alloc (.cells #[.int .i64 2, .int .i64 0, .slice none 0 0, .int .i64 0] 28)).alloc (.cells #[.int .i64 0, .int .i64 0, .slice none 0 0] 102)) w.heap.size #[.int .i64 2, .int .i64 0, .slice none 0 0, .int .i64 0] 28 from (Bx.new _ _ _).alloc _)
    have HA := Lib.hid (show Bx ((w.alloc (.cells #[.int .i64 2, .int .i64 0, .slice none 0 0, .int .i64 0] 28)).alloc (.cells #[.int .i64 0, .int .i64 0, .slice none 0 0] 102)) (w.heap.size + 1) #[.int .i64 0, .int .i64 0, .slice none 0 0] 102 from bx_new (by simp))
    have HB1 := Lib.hid (show Below w.heap.size w ((w.alloc (.cells #[.int .i64 2, .int .i64 0, .slice none 0 0, .int .i64 0] 28)).alloc (.cells #[.int .i64 0, .int .i64 0, .slice none 0 0] 102)) from below_al (below_al below_rf))
    generalize (w.alloc (.cells #[.int .i64 2, .int .i64 0, .slice none 0 0, .int .i64 0] 28)).alloc (.cells #[.int .i64 0, .int .i64 0, .slice none 0 0] 102) = w1 at *
    have c0 := HH.out.cell 0 (v := .int .i64 2) rfl
    have c1 := HH.out.cell 1 (v := .int .i64 0) rfl
    have c2 := HH.out.cell 2 (v := .slice none 0 0) rfl
    have c3 := HH.out.cell 3 (v := .int .i64 0) rfl
    go_wp2_with fail
    clear c0 c1 c2 c3
    refine (header_Format12 2 (by decide) _).mono ?_
    rintro e w2 ⟨⟨v, rfl, ho2⟩, B⟩
    obtain ⟨A', c', rfl⟩ := ho2.slice
    have HH2 := Lib.hid (HH.out.below B (Nat.le_refl _)); have HA2 := Lib.hid (HA.out.below B (Nat.le_refl _)); have HB2 := Lib.hid (HB1.out.trans (B.mono HB1.out.size)); clear B ho2 HH HA HB1
    have c0 := HH2.out.cell 0 (v := .int .i64 2) rfl
    have c1 := HH2.out.cell 1 (v := .int .i64 0) rfl
    have c2 := HH2.out.cell 2 (v := .slice none 0 0) rfl
    have c3 := HH2.out.cell 3 (v := .int .i64 0) rfl
    have a0 := HA2.out.cell 0 (v := .int .i64 0) rfl
    have a1 := HA2.out.cell 1 (v := .int .i64 0) rfl
    have a2 := HA2.out.cell 2 (v := .slice none 0 0) rfl
    go_wp2_with fail
    clear c0 c1 c2 c3 a0 a1 a2
    refine (codec_isAnswer12 2 (by decide) 0 (by decide) _).mono ?_
    rintro e w3 ⟨rfl, B⟩
    have HH3 := Lib.hid (HH2.out.below B (Nat.le_refl _)); have HA3 := Lib.hid (HA2.out.below B (Nat.le_refl _)); have HB3 := Lib.hid (HB2.out.trans (B.mono HB2.out.size)); clear B HH2 HA2 HB2
    have a0 := HA3.out.cell 0 (v := .int .i64 0) rfl
    have c0 := ((HH3.out.alloc (.cells #[.int .u8 0, .int .u8 0] 5)).alloc (.cells #[.slice (some ⟨w3.heap.size, 0, none⟩) 2 2] 142)).cell 0 (v := .int .i64 2) rfl
    have a2 := ((HA3.out.alloc (.cells #[.int .u8 0, .int .u8 0] 5)).alloc (.cells #[.slice (some ⟨w3.heap.size, 0, none⟩) 2 2] 142)).cell 2 (v := .slice none 0 0) rfl
    go_wp2_with fail
    refine (each_recs0 _ _ _ _).mono ?_
    rintro e w4 ⟨rfl, rfl⟩
    go_wp2_with fail
    go_ret2
    refine ⟨⟨_, _, rfl, ?_⟩, (HB3.out.alloc HB3.out.size _).alloc (by have := HB3.out.size; simp; omega) _⟩
    refine ⟨by decide, by decide, fun _ => ⟨w3.heap.size, 0, rfl, (by simp <;> omega), fun i x hi => ?_⟩⟩
    have HBX := ((Bx.new w3 #[.int .u8 0, .int .u8 0] 5).alloc (.cells #[.slice (some ⟨w3.heap.size, 0, none⟩) 2 2] 142))
    match i, hi with
    | 0, hi => simp at hi; subst hi; exact HBX.cell 0 rfl
    | 1, hi => simp at hi; subst hi; exact HBX.cell 1 rfl
    | i + 2, hi => simp at hi
  · go_enter Tryz.func56, Tryz.ntmps56
    go_wp2_with fail
    have HH := Lib.hid (show Bx ((w.alloc (.cells #[.int .i64 2, .int .i64 0, .slice none 0 0, .int .i64 0] 28)).alloc (.cells #[.int .i64 1, .int .i64 0, .slice none 0 0] 102)) w.heap.size #[.int .i64 2, .int .i64 0, .slice none 0 0, .int .i64 0] 28 from (Bx.new _ _ _).alloc _)
    have HA := Lib.hid (show Bx ((w.alloc (.cells #[.int .i64 2, .int .i64 0, .slice none 0 0, .int .i64 0] 28)).alloc (.cells #[.int .i64 1, .int .i64 0, .slice none 0 0] 102)) (w.heap.size + 1) #[.int .i64 1, .int .i64 0, .slice none 0 0] 102 from bx_new (by simp))
    have HB1 := Lib.hid (show Below w.heap.size w ((w.alloc (.cells #[.int .i64 2, .int .i64 0, .slice none 0 0, .int .i64 0] 28)).alloc (.cells #[.int .i64 1, .int .i64 0, .slice none 0 0] 102)) from below_al (below_al below_rf))
    generalize (w.alloc (.cells #[.int .i64 2, .int .i64 0, .slice none 0 0, .int .i64 0] 28)).alloc (.cells #[.int .i64 1, .int .i64 0, .slice none 0 0] 102) = w1 at *
    have c0 := HH.out.cell 0 (v := .int .i64 2) rfl
    have c1 := HH.out.cell 1 (v := .int .i64 0) rfl
    have c2 := HH.out.cell 2 (v := .slice none 0 0) rfl
    have c3 := HH.out.cell 3 (v := .int .i64 0) rfl
    go_wp2_with fail
    clear c0 c1 c2 c3
    refine (header_Format12 2 (by decide) _).mono ?_
    rintro e w2 ⟨⟨v, rfl, ho2⟩, B⟩
    obtain ⟨A', c', rfl⟩ := ho2.slice
    have HH2 := Lib.hid (HH.out.below B (Nat.le_refl _)); have HA2 := Lib.hid (HA.out.below B (Nat.le_refl _)); have HB2 := Lib.hid (HB1.out.trans (B.mono HB1.out.size)); clear B ho2 HH HA HB1
    have c0 := HH2.out.cell 0 (v := .int .i64 2) rfl
    have c1 := HH2.out.cell 1 (v := .int .i64 0) rfl
    have c2 := HH2.out.cell 2 (v := .slice none 0 0) rfl
    have c3 := HH2.out.cell 3 (v := .int .i64 0) rfl
    have a0 := HA2.out.cell 0 (v := .int .i64 1) rfl
    have a1 := HA2.out.cell 1 (v := .int .i64 0) rfl
    have a2 := HA2.out.cell 2 (v := .slice none 0 0) rfl
    go_wp2_with fail
    clear c0 c1 c2 c3 a0 a1 a2
    refine (codec_isAnswer12 2 (by decide) 1 (by decide) _).mono ?_
    rintro e w3 ⟨rfl, B⟩
    have HH3 := Lib.hid (HH2.out.below B (Nat.le_refl _)); have HA3 := Lib.hid (HA2.out.below B (Nat.le_refl _)); have HB3 := Lib.hid (HB2.out.trans (B.mono HB2.out.size)); clear B HH2 HA2 HB2
    have a0 := HA3.out.cell 0 (v := .int .i64 1) rfl
    have c0 := ((HH3.out.alloc (.cells #[.int .u8 0, .int .u8 1] 5)).alloc (.cells #[.slice (some ⟨w3.heap.size, 0, none⟩) 2 2] 142)).cell 0 (v := .int .i64 2) rfl
    have a2 := ((HA3.out.alloc (.cells #[.int .u8 0, .int .u8 1] 5)).alloc (.cells #[.slice (some ⟨w3.heap.size, 0, none⟩) 2 2] 142)).cell 2 (v := .slice none 0 0) rfl
    go_wp2_with fail
    refine (each_recs0 _ _ _ _).mono ?_
    rintro e w4 ⟨rfl, rfl⟩
    go_wp2_with fail
    go_ret2
    refine ⟨⟨_, _, rfl, ?_⟩, (HB3.out.alloc HB3.out.size _).alloc (by have := HB3.out.size; simp; omega) _⟩
    refine ⟨by decide, by decide, fun _ => ⟨w3.heap.size, 0, rfl, (by simp <;> omega), fun i x hi => ?_⟩⟩
    have HBX := ((Bx.new w3 #[.int .u8 0, .int .u8 1] 5).alloc (.cells #[.slice (some ⟨w3.heap.size, 0, none⟩) 2 2] 142))
    match i, hi with
    | 0, hi => simp at hi; subst hi; exact HBX.cell 0 rfl
    | 1, hi => simp at hi; subst hi; exact HBX.cell 1 rfl
    | i + 2, hi => simp at hi
  · go_enter Tryz.func56, Tryz.ntmps56
    go_wp2_with fail
    have HH := Lib.hid (show Bx ((w.alloc (.cells #[.int .i64 2, .int .i64 0, .slice none 0 0, .int .i64 0] 28)).alloc (.cells #[.int .i64 2, .int .i64 0, .slice none 0 0] 102)) w.heap.size #[.int .i64 2, .int .i64 0, .slice none 0 0, .int .i64 0] 28 from (Bx.new _ _ _).alloc _)
    have HA := Lib.hid (show Bx ((w.alloc (.cells #[.int .i64 2, .int .i64 0, .slice none 0 0, .int .i64 0] 28)).alloc (.cells #[.int .i64 2, .int .i64 0, .slice none 0 0] 102)) (w.heap.size + 1) #[.int .i64 2, .int .i64 0, .slice none 0 0] 102 from bx_new (by simp))
    have HB1 := Lib.hid (show Below w.heap.size w ((w.alloc (.cells #[.int .i64 2, .int .i64 0, .slice none 0 0, .int .i64 0] 28)).alloc (.cells #[.int .i64 2, .int .i64 0, .slice none 0 0] 102)) from below_al (below_al below_rf))
    generalize (w.alloc (.cells #[.int .i64 2, .int .i64 0, .slice none 0 0, .int .i64 0] 28)).alloc (.cells #[.int .i64 2, .int .i64 0, .slice none 0 0] 102) = w1 at *
    have c0 := HH.out.cell 0 (v := .int .i64 2) rfl
    have c1 := HH.out.cell 1 (v := .int .i64 0) rfl
    have c2 := HH.out.cell 2 (v := .slice none 0 0) rfl
    have c3 := HH.out.cell 3 (v := .int .i64 0) rfl
    go_wp2_with fail
    clear c0 c1 c2 c3
    refine (header_Format12 2 (by decide) _).mono ?_
    rintro e w2 ⟨⟨v, rfl, ho2⟩, B⟩
    obtain ⟨A', c', rfl⟩ := ho2.slice
    have HH2 := Lib.hid (HH.out.below B (Nat.le_refl _)); have HA2 := Lib.hid (HA.out.below B (Nat.le_refl _)); have HB2 := Lib.hid (HB1.out.trans (B.mono HB1.out.size)); clear B ho2 HH HA HB1
    have c0 := HH2.out.cell 0 (v := .int .i64 2) rfl
    have c1 := HH2.out.cell 1 (v := .int .i64 0) rfl
    have c2 := HH2.out.cell 2 (v := .slice none 0 0) rfl
    have c3 := HH2.out.cell 3 (v := .int .i64 0) rfl
    have a0 := HA2.out.cell 0 (v := .int .i64 2) rfl
    have a1 := HA2.out.cell 1 (v := .int .i64 0) rfl
    have a2 := HA2.out.cell 2 (v := .slice none 0 0) rfl
    go_wp2_with fail
    clear c0 c1 c2 c3 a0 a1 a2
    refine (codec_isAnswer12 2 (by decide) 2 (by decide) _).mono ?_
    rintro e w3 ⟨rfl, B⟩
    have HH3 := Lib.hid (HH2.out.below B (Nat.le_refl _)); have HA3 := Lib.hid (HA2.out.below B (Nat.le_refl _)); have HB3 := Lib.hid (HB2.out.trans (B.mono HB2.out.size)); clear B HH2 HA2 HB2
    have a0 := HA3.out.cell 0 (v := .int .i64 2) rfl
    have c0 := ((HH3.out.alloc (.cells #[.int .u8 0, .int .u8 2] 5)).alloc (.cells #[.slice (some ⟨w3.heap.size, 0, none⟩) 2 2] 142)).cell 0 (v := .int .i64 2) rfl
    have a2 := ((HA3.out.alloc (.cells #[.int .u8 0, .int .u8 2] 5)).alloc (.cells #[.slice (some ⟨w3.heap.size, 0, none⟩) 2 2] 142)).cell 2 (v := .slice none 0 0) rfl
    go_wp2_with fail
    refine (each_recs0 _ _ _ _).mono ?_
    rintro e w4 ⟨rfl, rfl⟩
    go_wp2_with fail
    go_ret2
    refine ⟨⟨_, _, rfl, ?_⟩, (HB3.out.alloc HB3.out.size _).alloc (by have := HB3.out.size; simp; omega) _⟩
    refine ⟨by decide, by decide, fun _ => ⟨w3.heap.size, 0, rfl, (by simp <;> omega), fun i x hi => ?_⟩⟩
    have HBX := ((Bx.new w3 #[.int .u8 0, .int .u8 2] 5).alloc (.cells #[.slice (some ⟨w3.heap.size, 0, none⟩) 2 2] 142))
    match i, hi with
    | 0, hi => simp at hi; subst hi; exact HBX.cell 0 rfl
    | 1, hi => simp at hi; subst hi; exact HBX.cell 1 rfl
    | i + 2, hi => simp at hi
end Go.Proofs.YtjdiilkljgljkaaGreatDoor
namespace Go.Proofs.YtjdiilkljgljkaaGreatDoor
set_option linter.unusedVariables false
set_option linter.unusedSimpArgs false
open Go.RowKit Wd

set_option maxHeartbeats 4000000 in
set_option maxRecDepth 100000 in
theorem serve_Handle1 (Q : Option Addr) (qc pb c : Nat) (f g : Nat → Int) (w : World) (hT : TabM w) (hp : Pts w (some ⟨pb, 0, none⟩) 3 c f g) :
    Calls Tryz.prog 55 #[.pointer none, .agg #[.int .i64 1, .int .i64 0, .slice none 0 0, .int .i64 0, .slice none 0 0, .slice (some ⟨pb, 0, none⟩) 3 c, .slice Q 0 qc]] w fun e w' => e = .returned (.tuple #[.agg #[.int .i64 (sg (det (f 0) (g 0) (f 1) (g 1) (f 2) (g 2)) + 1), .int .i64 0, .slice none 0 0], .int .i64 0]) ∧ Below w.heap.size w w' := by
  have HB0 := Lib.hid (Below.refl w.heap.size w); have FT := Lib.hid hT; have FP := Lib.hid hp; clear hT hp
  go_enter Tryz.func55, Tryz.ntmps55
  go_wp2_with fail
  have B : Below w.heap.size w ((w.alloc (.cells #[.int .i64 1, .int .i64 0, .slice none 0 0, .int .i64 0, .slice none 0 0, .slice (some ⟨pb, 0, none⟩) 3 c, .slice Q 0 qc] 99)).alloc (.cells #[.int .i64 0, .int .i64 0, .slice none 0 0] 102)) := ((HB0.out.alloc HB0.out.size _).alloc (HB0.out.alloc HB0.out.size _).size _)
  have C : Below w.heap.size w ((w.alloc (.cells #[.int .i64 1, .int .i64 0, .slice none 0 0, .int .i64 0, .slice none 0 0, .slice (some ⟨pb, 0, none⟩) 3 c, .slice Q 0 qc] 99)).alloc (.cells #[.int .i64 0, .int .i64 0, .slice none 0 0] 102)) := (((Below.refl w.heap.size w).alloc (Nat.le_refl _) _).alloc (by simp; try omega) _)
  have X0 : Bx ((w.alloc (.cells #[.int .i64 1, .int .i64 0, .slice none 0 0, .int .i64 0, .slice none 0 0, .slice (some ⟨pb, 0, none⟩) 3 c, .slice Q 0 qc] 99)).alloc (.cells #[.int .i64 0, .int .i64 0, .slice none 0 0] 102)) (w.heap.size) #[.int .i64 1, .int .i64 0, .slice none 0 0, .int .i64 0, .slice none 0 0, .slice (some ⟨pb, 0, none⟩) 3 c, .slice Q 0 qc] 99 := by simpa using ((Bx.new w #[.int .i64 1, .int .i64 0, .slice none 0 0, .int .i64 0, .slice none 0 0, .slice (some ⟨pb, 0, none⟩) 3 c, .slice Q 0 qc] 99).alloc _)
  have X1 : Bx ((w.alloc (.cells #[.int .i64 1, .int .i64 0, .slice none 0 0, .int .i64 0, .slice none 0 0, .slice (some ⟨pb, 0, none⟩) 3 c, .slice Q 0 qc] 99)).alloc (.cells #[.int .i64 0, .int .i64 0, .slice none 0 0] 102)) (w.heap.size + 1) #[.int .i64 0, .int .i64 0, .slice none 0 0] 102 := by simpa using (Bx.new (w.alloc (.cells #[.int .i64 1, .int .i64 0, .slice none 0 0, .int .i64 0, .slice none 0 0, .slice (some ⟨pb, 0, none⟩) 3 c, .slice Q 0 qc] 99)) #[.int .i64 0, .int .i64 0, .slice none 0 0] 102)
  have FT_1 := Lib.hid (FT.out.below C (Nat.le_refl _))
  have FP_1 := Lib.hid (FP.out.below C (Nat.le_refl _))
  have HB1 := Lib.hid B
  have FR_1 := Lib.hid X0
  have FZ_1 := Lib.hid X1
  clear B C X0 X1 HB0 FT FP
  generalize ((w.alloc (.cells #[.int .i64 1, .int .i64 0, .slice none 0 0, .int .i64 0, .slice none 0 0, .slice (some ⟨pb, 0, none⟩) 3 c, .slice Q 0 qc] 99)).alloc (.cells #[.int .i64 0, .int .i64 0, .slice none 0 0] 102)) = w1 at *
  have vR0 := FR_1.out.cell 0 (v := .int .i64 1) rfl
  have vR1 := FR_1.out.cell 1 (v := .int .i64 0) rfl
  have vR2 := FR_1.out.cell 2 (v := .slice none 0 0) rfl
  have vR3 := FR_1.out.cell 3 (v := .int .i64 0) rfl
  have vR4 := FR_1.out.cell 4 (v := .slice none 0 0) rfl
  have vR5 := FR_1.out.cell 5 (v := .slice (some ⟨pb, 0, none⟩) 3 c) rfl
  have vR6 := FR_1.out.cell 6 (v := .slice Q 0 qc) rfl
  go_wp2_with fail
  refine (codec_Encode12 1 (by decide) (some ⟨pb, 0, none⟩) c f g Q qc _ FP_1.out).mono ?_
  rintro e w2 ⟨⟨v, rfl⟩, B⟩
  clear vR0 vR1 vR2 vR3 vR4 vR5 vR6
  have HB2 := Lib.hid (HB1.out.trans (B.mono HB1.out.size))
  have FT_2 := Lib.hid (FT_1.out.below B (Nat.le_refl _))
  have FP_2 := Lib.hid (FP_1.out.below B (Nat.le_refl _))
  have FR_2 := Lib.hid (FR_1.out.below B (Nat.le_refl _))
  have FZ_2 := Lib.hid (FZ_1.out.below B (Nat.le_refl _))
  clear B  HB1 FT_1 FP_1 FR_1 FZ_1
  have vR0 := FR_2.out.cell 0 (v := .int .i64 1) rfl
  have vR1 := FR_2.out.cell 1 (v := .int .i64 0) rfl
  have vR2 := FR_2.out.cell 2 (v := .slice none 0 0) rfl
  have vR3 := FR_2.out.cell 3 (v := .int .i64 0) rfl
  have vR4 := FR_2.out.cell 4 (v := .slice none 0 0) rfl
  have vR5 := FR_2.out.cell 5 (v := .slice (some ⟨pb, 0, none⟩) 3 c) rfl
  have vR6 := FR_2.out.cell 6 (v := .slice Q 0 qc) rfl
  go_wp2_with fail
  refine (engine_Answer1 Q qc pb c f g _ FT_2.out FP_2.out).mono ?_
  rintro e w3 ⟨rfl, B⟩
  clear vR0 vR1 vR2 vR3 vR4 vR5 vR6
  have HB3 := Lib.hid (HB2.out.trans (B.mono HB2.out.size))
  have FT_3 := Lib.hid (FT_2.out.below B (Nat.le_refl _))
  have FP_3 := Lib.hid (FP_2.out.below B (Nat.le_refl _))
  have FR_3 := Lib.hid (FR_2.out.below B (Nat.le_refl _))
  have FZ_3 := Lib.hid (FZ_2.out.below B (Nat.le_refl _))
  clear B  HB2 FT_2 FP_2 FR_2 FZ_2
  have z0 := FZ_3.out.cell 0 (v := .int .i64 0) rfl; have z1 := FZ_3.out.cell 1 (v := .int .i64 0) rfl; have z2 := FZ_3.out.cell 2 (v := .slice none 0 0) rfl; have y0 := FZ_3.out.free 0; have y1 := FZ_3.out.free 1; have y2 := FZ_3.out.free 2
  go_wp2_with fail
  clear z0 z1 z2 y0 y1 y2
  have HZ := Lib.hid (((FZ_3.out.set 0 (.int .i64 (sg (det (f 0) (g 0) (f 1) (g 1) (f 2) (g 2)) + 1))).set 1 (.int .i64 0)).set 2 (.slice none 0 0))
  have HBE := Lib.hid (((HB3.out.setCell (p := ⟨w.heap.size + 1, 0, none⟩) (by show w.heap.size ≤ w.heap.size + 1; omega) (.int .i64 (sg (det (f 0) (g 0) (f 1) (g 1) (f 2) (g 2)) + 1))).setCell (p := ⟨w.heap.size + 1, 1, none⟩) (by show w.heap.size ≤ w.heap.size + 1; omega) (.int .i64 0)).setCell (p := ⟨w.heap.size + 1, 2, none⟩) (by show w.heap.size ≤ w.heap.size + 1; omega) (.slice none 0 0))
  generalize (((w3.setCell ⟨w.heap.size + 1, 0, none⟩ (.int .i64 (sg (det (f 0) (g 0) (f 1) (g 1) (f 2) (g 2)) + 1))).setCell ⟨w.heap.size + 1, 1, none⟩ (.int .i64 0)).setCell ⟨w.heap.size + 1, 2, none⟩ (.slice none 0 0)) = wz at *
  have q0 := HZ.out.cell 0 (v := .int .i64 (sg (det (f 0) (g 0) (f 1) (g 1) (f 2) (g 2)) + 1)) rfl
  have q1 := HZ.out.cell 1 (v := .int .i64 0) rfl
  have q2 := HZ.out.cell 2 (v := .slice none 0 0) rfl
  refine bodyPost_ret (v := .tuple #[.agg #[.int .i64 (sg (det (f 0) (g 0) (f 1) (g 1) (f 2) (g 2)) + 1), .int .i64 0, .slice none 0 0], .int .i64 0]) (by simp [results, Tryz.results55, go_sem, q0, q1, q2]) rfl ⟨rfl, HBE.out⟩
set_option maxHeartbeats 4000000 in
set_option maxRecDepth 100000 in
theorem serve_Handle2 (Q : Option Addr) (qc pb c : Nat) (f g : Nat → Int) (w : World) (hT : TabM w) (hp : Pts w (some ⟨pb, 0, none⟩) 4 c f g) :
    Calls Tryz.prog 55 #[.pointer none, .agg #[.int .i64 2, .int .i64 0, .slice none 0 0, .int .i64 0, .slice none 0 0, .slice (some ⟨pb, 0, none⟩) 4 c, .slice Q 0 qc]] w fun e w' => e = .returned (.tuple #[.agg #[.int .i64 (sg (circ (f 0) (g 0) (f 1) (g 1) (f 2) (g 2) (f 3) (g 3)) + 1), .int .i64 0, .slice none 0 0], .int .i64 0]) ∧ Below w.heap.size w w' := by
  have HB0 := Lib.hid (Below.refl w.heap.size w); have FT := Lib.hid hT; have FP := Lib.hid hp; clear hT hp
  go_enter Tryz.func55, Tryz.ntmps55
  go_wp2_with fail
  have B : Below w.heap.size w ((w.alloc (.cells #[.int .i64 2, .int .i64 0, .slice none 0 0, .int .i64 0, .slice none 0 0, .slice (some ⟨pb, 0, none⟩) 4 c, .slice Q 0 qc] 99)).alloc (.cells #[.int .i64 0, .int .i64 0, .slice none 0 0] 102)) := ((HB0.out.alloc HB0.out.size _).alloc (HB0.out.alloc HB0.out.size _).size _)
  have C : Below w.heap.size w ((w.alloc (.cells #[.int .i64 2, .int .i64 0, .slice none 0 0, .int .i64 0, .slice none 0 0, .slice (some ⟨pb, 0, none⟩) 4 c, .slice Q 0 qc] 99)).alloc (.cells #[.int .i64 0, .int .i64 0, .slice none 0 0] 102)) := (((Below.refl w.heap.size w).alloc (Nat.le_refl _) _).alloc (by simp; try omega) _)
  have X0 : Bx ((w.alloc (.cells #[.int .i64 2, .int .i64 0, .slice none 0 0, .int .i64 0, .slice none 0 0, .slice (some ⟨pb, 0, none⟩) 4 c, .slice Q 0 qc] 99)).alloc (.cells #[.int .i64 0, .int .i64 0, .slice none 0 0] 102)) (w.heap.size) #[.int .i64 2, .int .i64 0, .slice none 0 0, .int .i64 0, .slice none 0 0, .slice (some ⟨pb, 0, none⟩) 4 c, .slice Q 0 qc] 99 := by simpa using ((Bx.new w #[.int .i64 2, .int .i64 0, .slice none 0 0, .int .i64 0, .slice none 0 0, .slice (some ⟨pb, 0, none⟩) 4 c, .slice Q 0 qc] 99).alloc _)
  have X1 : Bx ((w.alloc (.cells #[.int .i64 2, .int .i64 0, .slice none 0 0, .int .i64 0, .slice none 0 0, .slice (some ⟨pb, 0, none⟩) 4 c, .slice Q 0 qc] 99)).alloc (.cells #[.int .i64 0, .int .i64 0, .slice none 0 0] 102)) (w.heap.size + 1) #[.int .i64 0, .int .i64 0, .slice none 0 0] 102 := by simpa using (Bx.new (w.alloc (.cells #[.int .i64 2, .int .i64 0, .slice none 0 0, .int .i64 0, .slice none 0 0, .slice (some ⟨pb, 0, none⟩) 4 c, .slice Q 0 qc] 99)) #[.int .i64 0, .int .i64 0, .slice none 0 0] 102)
  have FT_1 := Lib.hid (FT.out.below C (Nat.le_refl _))
  have FP_1 := Lib.hid (FP.out.below C (Nat.le_refl _))
  have HB1 := Lib.hid B
  have FR_1 := Lib.hid X0
  have FZ_1 := Lib.hid X1
  clear B C X0 X1 HB0 FT FP
  generalize ((w.alloc (.cells #[.int .i64 2, .int .i64 0, .slice none 0 0, .int .i64 0, .slice none 0 0, .slice (some ⟨pb, 0, none⟩) 4 c, .slice Q 0 qc] 99)).alloc (.cells #[.int .i64 0, .int .i64 0, .slice none 0 0] 102)) = w1 at *
  have vR0 := FR_1.out.cell 0 (v := .int .i64 2) rfl
  have vR1 := FR_1.out.cell 1 (v := .int .i64 0) rfl
  have vR2 := FR_1.out.cell 2 (v := .slice none 0 0) rfl
  have vR3 := FR_1.out.cell 3 (v := .int .i64 0) rfl
  have vR4 := FR_1.out.cell 4 (v := .slice none 0 0) rfl
  have vR5 := FR_1.out.cell 5 (v := .slice (some ⟨pb, 0, none⟩) 4 c) rfl
  have vR6 := FR_1.out.cell 6 (v := .slice Q 0 qc) rfl
  go_wp2_with fail
  refine (codec_Encode12 2 (by decide) (some ⟨pb, 0, none⟩) c f g Q qc _ FP_1.out).mono ?_
  rintro e w2 ⟨⟨v, rfl⟩, B⟩
  clear vR0 vR1 vR2 vR3 vR4 vR5 vR6
  have HB2 := Lib.hid (HB1.out.trans (B.mono HB1.out.size))
  have FT_2 := Lib.hid (FT_1.out.below B (Nat.le_refl _))
  have FP_2 := Lib.hid (FP_1.out.below B (Nat.le_refl _))
  have FR_2 := Lib.hid (FR_1.out.below B (Nat.le_refl _))
  have FZ_2 := Lib.hid (FZ_1.out.below B (Nat.le_refl _))
  clear B  HB1 FT_1 FP_1 FR_1 FZ_1
  have vR0 := FR_2.out.cell 0 (v := .int .i64 2) rfl
  have vR1 := FR_2.out.cell 1 (v := .int .i64 0) rfl
  have vR2 := FR_2.out.cell 2 (v := .slice none 0 0) rfl
  have vR3 := FR_2.out.cell 3 (v := .int .i64 0) rfl
  have vR4 := FR_2.out.cell 4 (v := .slice none 0 0) rfl
  have vR5 := FR_2.out.cell 5 (v := .slice (some ⟨pb, 0, none⟩) 4 c) rfl
  have vR6 := FR_2.out.cell 6 (v := .slice Q 0 qc) rfl
  go_wp2_with fail
  refine (engine_Answer2 Q qc pb c f g _ FT_2.out FP_2.out).mono ?_
  rintro e w3 ⟨rfl, B⟩
  clear vR0 vR1 vR2 vR3 vR4 vR5 vR6
  have HB3 := Lib.hid (HB2.out.trans (B.mono HB2.out.size))
  have FT_3 := Lib.hid (FT_2.out.below B (Nat.le_refl _))
  have FP_3 := Lib.hid (FP_2.out.below B (Nat.le_refl _))
  have FR_3 := Lib.hid (FR_2.out.below B (Nat.le_refl _))
  have FZ_3 := Lib.hid (FZ_2.out.below B (Nat.le_refl _))
  clear B  HB2 FT_2 FP_2 FR_2 FZ_2
  have z0 := FZ_3.out.cell 0 (v := .int .i64 0) rfl; have z1 := FZ_3.out.cell 1 (v := .int .i64 0) rfl; have z2 := FZ_3.out.cell 2 (v := .slice none 0 0) rfl; have y0 := FZ_3.out.free 0; have y1 := FZ_3.out.free 1; have y2 := FZ_3.out.free 2
  go_wp2_with fail
  clear z0 z1 z2 y0 y1 y2
  have HZ := Lib.hid (((FZ_3.out.set 0 (.int .i64 (sg (circ (f 0) (g 0) (f 1) (g 1) (f 2) (g 2) (f 3) (g 3)) + 1))).set 1 (.int .i64 0)).set 2 (.slice none 0 0))
  have HBE := Lib.hid (((HB3.out.setCell (p := ⟨w.heap.size + 1, 0, none⟩) (by show w.heap.size ≤ w.heap.size + 1; omega) (.int .i64 (sg (circ (f 0) (g 0) (f 1) (g 1) (f 2) (g 2) (f 3) (g 3)) + 1))).setCell (p := ⟨w.heap.size + 1, 1, none⟩) (by show w.heap.size ≤ w.heap.size + 1; omega) (.int .i64 0)).setCell (p := ⟨w.heap.size + 1, 2, none⟩) (by show w.heap.size ≤ w.heap.size + 1; omega) (.slice none 0 0))
  generalize (((w3.setCell ⟨w.heap.size + 1, 0, none⟩ (.int .i64 (sg (circ (f 0) (g 0) (f 1) (g 1) (f 2) (g 2) (f 3) (g 3)) + 1))).setCell ⟨w.heap.size + 1, 1, none⟩ (.int .i64 0)).setCell ⟨w.heap.size + 1, 2, none⟩ (.slice none 0 0)) = wz at *
  have q0 := HZ.out.cell 0 (v := .int .i64 (sg (circ (f 0) (g 0) (f 1) (g 1) (f 2) (g 2) (f 3) (g 3)) + 1)) rfl
  have q1 := HZ.out.cell 1 (v := .int .i64 0) rfl
  have q2 := HZ.out.cell 2 (v := .slice none 0 0) rfl
  refine bodyPost_ret (v := .tuple #[.agg #[.int .i64 (sg (circ (f 0) (g 0) (f 1) (g 1) (f 2) (g 2) (f 3) (g 3)) + 1), .int .i64 0, .slice none 0 0], .int .i64 0]) (by simp [results, Tryz.results55, go_sem, q0, q1, q2]) rfl ⟨rfl, HBE.out⟩
end Go.Proofs.YtjdiilkljgljkaaGreatDoor
namespace Go.Proofs.YtjdiilkljgljkaaGreatDoor
set_option linter.unusedVariables false
set_option linter.unusedSimpArgs false
open Go.RowKit Wd

theorem infoPt0 : (Tryz.prog.info? 23).map (fun i => (i.zero, i.size, i.bytes)) = some (some (.agg #[.int .i64 0, .int .i64 0]), 2, 16) := by kernel_rfl
set_option maxHeartbeats 4000000 in
set_option maxRecDepth 100000 in
theorem take_pts (br n : Nat) (hn : n ≤ 10000) (f g : Nat → Int) (hi : ∀ i, i < n → IsI (f i) ∧ IsI (g i)) (l : List Int) (w : World) (hr : Rd w br (ptsB f g n ++ l)) :
    Calls Tryz.prog 79 #[.int .i64 n, .func (.func 81) #[.pointer (some ⟨br, 0, none⟩)] #[]] w fun e w' => (∃ b, e = .returned (.slice (some ⟨b, 0, none⟩) n n) ∧ w.heap.size ≤ b ∧ Pts w' (some ⟨b, 0, none⟩) n n f g) ∧ Rd w' br l ∧ w.grownBy w' (some br) := by
  obtain ⟨i0, hi0, hz0, hz1, hz2⟩ := info_parts infoPt0
  have HR := Lib.hid hr; have HI := Lib.hid hi; have HN := Lib.hid hn; have HLT := Lib.hid hr.lt; clear hr hi hn
  go_enter Tryz.func79, Tryz.ntmps79
  go_wp2_with (at_make; refine wpList_make_full _ rfl _ _ 29 rfl w.heap.size 23 i0 _ 2 Tryz.underlying29 hi0 hz0 hz1 .i64 .i64 (n : Int) (n : Int) n rfl rfl rfl rfl ?b1 ?b2 ?b3 ?_)
  case b1 => rw [hz2]; have := HN.out; omega
  case b2 => have := HN.out; unfold maxLen; omega
  case b3 => exact Nat.le_refl _
  intro w1 hown hg
  have HG1 := Lib.hid (show w.grownBy w1 (some br) from ⟨hg.os, hg.tape, hg.output, hg.size, fun k hk _ => hg.block k hk (by simp)⟩)
  have HO1 := Lib.hid hown
  have HR1 := Lib.hid (show Rd w1 br (ptsF f g 0 n ++ l) from by
    have h := HR.out; rw [ptsB_F0] at h
    exact h.below (B := w.heap.size) ⟨hg.os, hg.tape, hg.output, hg.size, fun k hk => hg.block k hk (by simp)⟩ (Nat.le_refl _))
  clear hown hg HR
  have HBL := Lib.hid (show 0 < n → ∃ cur, Bx w1 w.heap.size cur 23 ∧ cur.size = n * 2 ∧ NoB cur from fun h => ⟨_, madeRow HO1.out h, size_madeCells _ _, noB_made (fun u hu x => by simp [Value.cells] at hu; rw [hu]; simp) (by decide) _⟩)
  clear HO1
  go_wp2_with fail
  go_loopw [11] (fun ir wr => ∃ k : Nat, k ≤ n ∧ ir = .int .i64 (k : Int) ∧ (0 < n → ∃ cur, Bx wr w.heap.size cur 23 ∧ RowE cur 2 (n * 2) k (ptE f g) ∧ NoB cur) ∧ Rd wr br (ptsF f g k (n - k) ++ l) ∧ w.grownBy wr (some br)) (fun i _ => n - (intOf i).toNat)
  case atStart => exact ⟨0, Nat.zero_le _, rfl, fun h => by obtain ⟨cur, h1, h2, h3⟩ := HBL.out h; exact ⟨cur, h1, ⟨h2, fun i hi => absurd hi (Nat.not_lt_zero _)⟩, h3⟩, HR1.out, HG1.out⟩
  case round =>
    obtain ⟨k, hk, rfl, hrow, hrd, hg⟩ := hrel
    have HRW := Lib.hid hrow; have HRD := Lib.hid hrd; have HG := Lib.hid hg; clear hrow hrd hg
    by_cases hlt : k < n
    · have HRD2 := Lib.hid (show Rd wr br (ptB (f k) (g k) ++ (ptsF f g (k + 1) (n - (k + 1)) ++ l)) from by have := HRD.out; rw [ptsF_step f g hlt, List.append_assoc] at this; exact this)
      obtain ⟨cur, hbx, hre, hnb⟩ := HRW.out (by omega)
      have HBX := Lib.hid hbx; have HRE := Lib.hid hre; have HNB := Lib.hid hnb; clear hbx hre hnb HRD HRW HBL HR1 HG1
      have HNE := Lib.hid (show w.heap.size ≠ br from by have := HLT.out; omega)
      have HNN := HN.out
      have hms := Lib.hid (show n - (intOf (.int .i64 ((k : Int) + 1))).toNat < n - (intOf (.int .i64 (k : Int))).toNat from by simp [intOf]; omega)
      have w1_ : wrap64 ((k : Int) + 1) = (k : Int) + 1 := by rw [← IntWalk.i64_left, IntKind.wrap_i64]; omega
      have w2_ : IntKind.i64.wrap ((k : Int) + 1) = (k : Int) + 1 := by rw [IntKind.wrap_i64]; omega
      have HNN2 := Lib.hid HNN; clear HNN
      go_wp2_with fail
      refine (reader_point br (f k) (g k) (HI.out k hlt).1 (HI.out k hlt).2 _ _ HRD2.out).mono ?_
      rintro e w2 ⟨rfl, h2, g2⟩
      have HR2 := Lib.hid h2; have HB2 := Lib.hid (bx_gr HBX.out HNE.out g2); have HG2 := Lib.hid (HG.out.trans g2); clear h2 g2 HBX HG HRD2
      obtain ⟨v0, hv0⟩ := HRE.out.some (i := k * 2) (by omega)
      obtain ⟨v1, hv1⟩ := HRE.out.some (i := k * 2 + 1) (by omega)
      have c0 := HB2.out.cell (k * 2) (v := v0) hv0
      have c1 := HB2.out.cell (k * 2 + 1) (v := v1) hv1
      have z0 := HB2.out.free (k * 2)
      have z1 := HB2.out.free (k * 2 + 1)
      clear hv0 hv1
      go_wp2_with fail
      clear c0 c1 z0 z1
      have HB3 := Lib.hid (show Bx ((w2.setCell ⟨w.heap.size, k * 2, none⟩ (.int .i64 (f k))).setCell ⟨w.heap.size, k * 2 + 1, none⟩ (.int .i64 (g k))) w.heap.size (setRow cur (k * 2) [.int .i64 (f k), .int .i64 (g k)]) 23 from (HB2.out.set (k * 2) _).set (k * 2 + 1) _)
      have HRE3 := Lib.hid (HRE.out.snoc (by omega) [.int .i64 (f k), .int .i64 (g k)] rfl (fun j hj => by match j, hj with | 0, _ => rfl | 1, _ => rfl))
      have HG3 := Lib.hid (gr_new (i := k * 2 + 1) (v := .int .i64 (g k)) (gr_new (i := k * 2) (v := .int .i64 (f k)) HG2.out (Nat.le_refl w.heap.size)) (Nat.le_refl w.heap.size))
      have HR3 := Lib.hid (show Rd ((w2.setCell ⟨w.heap.size, k * 2, none⟩ (.int .i64 (f k))).setCell ⟨w.heap.size, k * 2 + 1, none⟩ (.int .i64 (g k))) br (ptsF f g (k + 1) (n - (k + 1)) ++ l) from by
        obtain ⟨A, c, h1, h2⟩ := HR2.out
        exact ⟨A, c, (h1.other _ (fun e => HNE.out e.symm)).other _ (fun e => HNE.out e.symm), by_keep (by_keep h2 HB2.out HNB.out (gr_set _ _ _ _)) (HB2.out.set (k * 2) _) (noB_set HNB.out (by simp) _) (gr_set _ _ _ _)⟩)
      have HNB3 := Lib.hid (noB_setRow [.int .i64 (f k), .int .i64 (g k)] (k * 2) HNB.out (by simp))
      clear HB2 HR2 HG2 HRE
      go_roundw
      case rel => exact ⟨k + 1, hlt, by go_num, fun _ => ⟨_, HB3.out, HRE3.out, HNB3.out⟩, HR3.out, HG3.out⟩
      case measure => exact hms.out
    · obtain rfl : k = n := by omega
      have HRD2 := Lib.hid (show Rd wr br l from by have := HRD.out; rw [Nat.sub_self] at this; exact this)
      go_wp2_with fail
      go_ret
      refine ⟨⟨_, rfl, Nat.le_refl _, ?_⟩, HRD2.out, HG.out⟩
      by_cases h0 : 0 < k
      · obtain ⟨cur, h1, h2, _⟩ := HRW.out h0
        exact bx_ptE h1 h2 (by have := HN.out; unfold maxLen; omega) HI.out
      · exact ⟨Nat.le_refl _, by have := HN.out; unfold maxLen; omega, HI.out, fun h => absurd h h0⟩
end Go.Proofs.YtjdiilkljgljkaaGreatDoor
namespace Go.Proofs.YtjdiilkljgljkaaGreatDoor
set_option linter.unusedVariables false
set_option linter.unusedSimpArgs false
open Go.RowKit Wd

theorem Pts.setFar {w : World} {B off n c k i : Nat} {v : Value} {f g : Nat → Int} (h : Pts w (Option.some ⟨B, off, none⟩) n c f g) (hne : B ≠ k) : Pts (w.setCell ⟨k, i, none⟩ v) (Option.some ⟨B, off, none⟩) n c f g :=
  ⟨h.cap, h.max, h.isi, fun hn => by
    obtain ⟨b, o, e, hlt, hc⟩ := h.at_ hn
    obtain ⟨rfl, rfl⟩ : B = b ∧ off = o := by simpa using e
    exact ⟨B, off, rfl, by simpa [World.setCell] using hlt, fun j hj => ⟨keep_set (hc j hj).1 hne, keep_set (hc j hj).2 hne⟩⟩⟩
set_option maxHeartbeats 4000000 in
set_option maxRecDepth 100000 in
theorem codec_Decode12 (op : Int) (ho : op = 1 ∨ op = 2) (A : Option Addr) (c : Nat) (f g : Nat → Int) (hi : ∀ i, i < (op + 2).toNat → IsI (f i) ∧ IsI (g i)) (w : World) (hT : TabF w) (hb : By w A c (op :: ptsB f g (op + 2).toNat)) :
    Calls Tryz.prog 54 #[.slice A (16 * (op + 2).toNat + 1) c] w fun e w' => (∃ (B Q : Nat), e = .returned (.tuple #[.agg #[.int .i64 op, .int .i64 0, .slice none 0 0, .int .i64 0, .slice none 0 0, .slice (some ⟨B, 0, none⟩) (op + 2).toNat (op + 2).toNat, .slice (some ⟨Q, 0, none⟩) 0 0], .int .i64 0]) ∧ Pts w' (some ⟨B, 0, none⟩) (op + 2).toNat (op + 2).toNat f g) ∧ Below w.heap.size w w' := by
  rcases ho with rfl | rfl
  · have HI := Lib.hid (show ∀ i, i < 3 → IsI (f i) ∧ IsI (g i) from hi); clear hi
    have HBY := Lib.hid (show By w A c (1 :: ptsB f g 3) from hb); have HT := Lib.hid hT; clear hb hT
    rw [show ((1 : Int) + 2).toNat = 3 from rfl]
    have hln : (ptsB f g 3).length = 48 := ptsB_len f g 3
    obtain ⟨b, off, rfl, -, -⟩ := HBY.out.at_ (by simp)
    have hcp := HBY.out.cap
    simp only [List.length_cons, hln] at hcp
    have hmx := HBY.out.max
    unfold maxLen at hmx
    have hc1 : ¬ (c = 1) := by omega
    have HLN := Lib.hid hln; clear hln
    go_enter Tryz.func54, Tryz.ntmps54
    go_wp2_with fail
    have HZ := Lib.hid (Bx.new w #[.int .i64 0, .int .i64 0, .slice none 0 0, .int .i64 0, .slice none 0 0, .slice none 0 0, .slice none 0 0] 99)
    have HBY1 := Lib.hid (HBY.out.alloc (.cells #[.int .i64 0, .int .i64 0, .slice none 0 0, .int .i64 0, .slice none 0 0, .slice none 0 0, .slice none 0 0] 99)); have HT1 := Lib.hid (HT.out.alloc (.cells #[.int .i64 0, .int .i64 0, .slice none 0 0, .int .i64 0, .slice none 0 0, .slice none 0 0, .slice none 0 0] 99))
    have HB1 := Lib.hid (show Below w.heap.size w (w.alloc (.cells #[.int .i64 0, .int .i64 0, .slice none 0 0, .int .i64 0, .slice none 0 0, .slice none 0 0, .slice none 0 0] 99)) from below_al below_rf)
    generalize w.alloc (.cells #[.int .i64 0, .int .i64 0, .slice none 0 0, .int .i64 0, .slice none 0 0, .slice none 0 0, .slice none 0 0] 99) = w1 at *
    clear HBY HT
    have hcl := header_Classify12 (some ⟨b, off, none⟩) c 1 (by decide) (ptsB f g 3) w1 HT1.out HBY1.out (by rw [HLN.out]; rfl)
    have hpa := fun w0 => header_Parse12 (some ⟨b, off, none⟩) c 1 (by decide) (ptsB f g 3) w0
    rw [HLN.out] at hcl hpa
    have HCL := Lib.hid hcl; have HPA := Lib.hid hpa; clear hcl hpa
    refine HCL.out.mono ?_
    rintro e w2 ⟨rfl, B⟩
    have HBY2 := Lib.hid (HBY1.out.below B (Nat.le_refl _)); have HT2 := Lib.hid (HT1.out.below B (Nat.le_refl _)); have HZ2 := Lib.hid (HZ.out.below B (Nat.le_refl _)); have HB2 := Lib.hid (HB1.out.trans (B.mono HB1.out.size)); clear B HBY1 HT1 HZ HB1 HCL
    go_wp2_with fail
    refine (HPA.out _ HBY2.out).mono ?_
    rintro e w3 ⟨rfl, B⟩
    have HBY3 := Lib.hid (HBY2.out.below B (Nat.le_refl _)); have HZ3 := Lib.hid (HZ2.out.below B (Nat.le_refl _)); have HB3 := Lib.hid (HB2.out.trans (B.mono HB2.out.size)); clear B HBY2 HT2 HZ2 HB2 HPA
    go_wp2_with fail
    have HR := Lib.hid (show Rd (((w3.alloc (.cells #[.int .i64 1, .int .i64 0, .slice none 0 0, .int .i64 0] 28)).alloc (.cells #[.int .i64 1, .int .i64 0, .slice none 0 0, .int .i64 0, .slice none 0 0, .slice none 0 0, .slice none 0 0] 99)).alloc (.cells #[.slice (some ⟨b, off + 1, none⟩) 48 (c - 1)] 131)) (w3.heap.size + 1 + 1) (ptsB f g 3) from by
      have h1 := HBY3.out.tail
      rw [if_neg hc1] at h1
      refine ⟨some ⟨b, off + 1, none⟩, c - 1, ?_, ((h1.alloc _).alloc _).alloc _⟩
      rw [HLN.out]; exact bx_new (by simp))
    have HH := Lib.hid (show Bx (((w3.alloc (.cells #[.int .i64 1, .int .i64 0, .slice none 0 0, .int .i64 0] 28)).alloc (.cells #[.int .i64 1, .int .i64 0, .slice none 0 0, .int .i64 0, .slice none 0 0, .slice none 0 0, .slice none 0 0] 99)).alloc (.cells #[.slice (some ⟨b, off + 1, none⟩) 48 (c - 1)] 131)) w3.heap.size #[.int .i64 1, .int .i64 0, .slice none 0 0, .int .i64 0] 28 from ((Bx.new _ _ _).alloc _).alloc _)
    have HQ := Lib.hid (show Bx (((w3.alloc (.cells #[.int .i64 1, .int .i64 0, .slice none 0 0, .int .i64 0] 28)).alloc (.cells #[.int .i64 1, .int .i64 0, .slice none 0 0, .int .i64 0, .slice none 0 0, .slice none 0 0, .slice none 0 0] 99)).alloc (.cells #[.slice (some ⟨b, off + 1, none⟩) 48 (c - 1)] 131)) (w3.heap.size + 1) #[.int .i64 1, .int .i64 0, .slice none 0 0, .int .i64 0, .slice none 0 0, .slice none 0 0, .slice none 0 0] 99 from (bx_new (by simp)).alloc _)
    have HZ6 := Lib.hid (show Bx (((w3.alloc (.cells #[.int .i64 1, .int .i64 0, .slice none 0 0, .int .i64 0] 28)).alloc (.cells #[.int .i64 1, .int .i64 0, .slice none 0 0, .int .i64 0, .slice none 0 0, .slice none 0 0, .slice none 0 0] 99)).alloc (.cells #[.slice (some ⟨b, off + 1, none⟩) 48 (c - 1)] 131)) w.heap.size #[.int .i64 0, .int .i64 0, .slice none 0 0, .int .i64 0, .slice none 0 0, .slice none 0 0, .slice none 0 0] 99 from ((HZ3.out.alloc _).alloc _).alloc _)
    have HB6 := Lib.hid (show Below w.heap.size w (((w3.alloc (.cells #[.int .i64 1, .int .i64 0, .slice none 0 0, .int .i64 0] 28)).alloc (.cells #[.int .i64 1, .int .i64 0, .slice none 0 0, .int .i64 0, .slice none 0 0, .slice none 0 0, .slice none 0 0] 99)).alloc (.cells #[.slice (some ⟨b, off + 1, none⟩) 48 (c - 1)] 131)) from ((HB3.out.alloc HB3.out.size _).alloc (by have := HB3.out.size; simp; omega) _).alloc (by have := HB3.out.size; simp; omega) _)
    have HLZ := Lib.hid (show w.heap.size < w3.heap.size from HZ3.out.lt)
    generalize ((w3.alloc (.cells #[.int .i64 1, .int .i64 0, .slice none 0 0, .int .i64 0] 28)).alloc (.cells #[.int .i64 1, .int .i64 0, .slice none 0 0, .int .i64 0, .slice none 0 0, .slice none 0 0, .slice none 0 0] 99)).alloc (.cells #[.slice (some ⟨b, off + 1, none⟩) 48 (c - 1)] 131) = w6 at *
    clear HBY3 HZ3 HB3
    generalize w3.heap.size = hb at *
    refine wp_loop_rounds 1 ?_
    rw [rounds_succ]
    have c0 := HH.out.cell 0 (v := .int .i64 1) rfl
    have c1 := HH.out.cell 1 (v := .int .i64 0) rfl
    have c2 := HH.out.cell 2 (v := .slice none 0 0) rfl
    have c3 := HH.out.cell 3 (v := .int .i64 0) rfl
    go_wp2_with fail
    clear c0 c1 c2 c3
    refine (codec_counts12 1 (by decide) _).mono ?_
    rintro e w7 ⟨rfl, B⟩
    have HR7 := Lib.hid (HR.out.below B (Nat.le_refl _)); have HQ7 := Lib.hid (HQ.out.below B (Nat.le_refl _)); have HZ7 := Lib.hid (HZ6.out.below B (Nat.le_refl _)); have HB7 := Lib.hid (HB6.out.trans (B.mono HB6.out.size)); clear B HR HQ HZ6 HB6 HH
    rw [show (1 : Int) + 2 = 3 from rfl]
    go_wp2_with fail
    refine (take_pts (hb + 1 + 1) 3 (by decide) f g HI.out [] _ (by rw [List.append_nil]; exact HR7.out)).mono ?_
    rintro e w8 ⟨⟨B, rfl, hBl, hP⟩, hR, g8⟩
    have HP8 := Lib.hid hP; have HR8 := Lib.hid hR; have HQ8 := Lib.hid (bx_gr HQ7.out (by omega) g8); have HZ8 := Lib.hid (bx_gr HZ7.out (by have := HLZ.out; omega) g8); have HB8 := Lib.hid (below_gr HB7.out (by have := HLZ.out; omega) HB7.out.size g8)
    have HBQ := Lib.hid (show B ≠ hb + 1 from by have := HQ7.out.lt; omega)
    have HBZ := Lib.hid (show B ≠ w.heap.size from by have := HZ7.out.lt; omega)
    clear hP hR g8 HR7 HQ7 HZ7 HB7 hBl
    have c5 := HQ8.out.cell 5 (v := .slice none 0 0) rfl
    have z5 := HQ8.out.free 5
    go_wp2_with fail
    clear c5 z5
    have HQ9 := Lib.hid (HQ8.out.set 5 (.slice (some ⟨B, 0, none⟩) 3 3)); have HP9 := Lib.hid (HP8.out.setFar (k := hb + 1) (i := 5) (v := .slice (some ⟨B, 0, none⟩) 3 3) HBQ.out); have HZ9 := Lib.hid (HZ8.out.other (a := ⟨hb + 1, 5, none⟩) (.slice (some ⟨B, 0, none⟩) 3 3) (by have := HLZ.out; show w.heap.size ≠ hb + 1; omega)); have HB9 := Lib.hid (HB8.out.setCell (p := ⟨hb + 1, 5, none⟩) (by have := HLZ.out; show w.heap.size ≤ hb + 1; omega) (.slice (some ⟨B, 0, none⟩) 3 3))
    generalize w8.setCell ⟨hb + 1, 5, none⟩ (.slice (some ⟨B, 0, none⟩) 3 3) = w9 at *
    clear HQ8 HP8 HZ8 HB8 HR8
    refine (take_qus0 _ _).mono ?_
    rintro e w10 ⟨rfl, B10⟩
    have HQ10 := Lib.hid (HQ9.out.below B10 (Nat.le_refl _)); have HP10 := Lib.hid (HP9.out.below B10 (Nat.le_refl _)); have HZ10 := Lib.hid (HZ9.out.below B10 (Nat.le_refl _)); have HB10 := Lib.hid (HB9.out.trans (B10.mono HB9.out.size)); clear B10 HQ9 HP9 HZ9 HB9
    have c6 := HQ10.out.cell 6 (v := .slice none 0 0) rfl
    have z6 := HQ10.out.free 6
    have HQ11 := Lib.hid (HQ10.out.set 6 (.slice (some ⟨w9.heap.size, 0, none⟩) 0 0)); have HZ11 := Lib.hid (HZ10.out.other (a := ⟨hb + 1, 6, none⟩) (.slice (some ⟨w9.heap.size, 0, none⟩) 0 0) (by have := HLZ.out; show w.heap.size ≠ hb + 1; omega))
    have d0 := HQ11.out.cell 0 (v := .int .i64 1) rfl
    have d1 := HQ11.out.cell 1 (v := .int .i64 0) rfl
    have d2 := HQ11.out.cell 2 (v := .slice none 0 0) rfl
    have d3 := HQ11.out.cell 3 (v := .int .i64 0) rfl
    have d4 := HQ11.out.cell 4 (v := .slice none 0 0) rfl
    have d5 := HQ11.out.cell 5 (v := .slice (some ⟨B, 0, none⟩) 3 3) rfl
    have d6 := HQ11.out.cell 6 (v := .slice (some ⟨w9.heap.size, 0, none⟩) 0 0) rfl
    have e0 := HZ11.out.cell 0 (v := .int .i64 0) rfl
    have y0 := HZ11.out.free 0
    have e1 := HZ11.out.cell 1 (v := .int .i64 0) rfl
    have y1 := HZ11.out.free 1
    have e2 := HZ11.out.cell 2 (v := .slice none 0 0) rfl
    have y2 := HZ11.out.free 2
    have e3 := HZ11.out.cell 3 (v := .int .i64 0) rfl
    have y3 := HZ11.out.free 3
    have e4 := HZ11.out.cell 4 (v := .slice none 0 0) rfl
    have y4 := HZ11.out.free 4
    have e5 := HZ11.out.cell 5 (v := .slice none 0 0) rfl
    have y5 := HZ11.out.free 5
    have e6 := HZ11.out.cell 6 (v := .slice none 0 0) rfl
    have y6 := HZ11.out.free 6
    go_wp2_with fail
    clear c6 z6 d0 e0 y0 d1 e1 y1 d2 e2 y2 d3 e3 y3 d4 e4 y4 d5 e5 y5 d6 e6 y6
    have HB12 := Lib.hid (show Below w.heap.size w ((((((((w10.setCell ⟨hb + 1, 6, none⟩ (.slice (some ⟨w9.heap.size, 0, none⟩) 0 0)).setCell ⟨w.heap.size, 0, none⟩ (.int .i64 1)).setCell ⟨w.heap.size, 1, none⟩ (.int .i64 0)).setCell ⟨w.heap.size, 2, none⟩ (.slice none 0 0)).setCell ⟨w.heap.size, 3, none⟩ (.int .i64 0)).setCell ⟨w.heap.size, 4, none⟩ (.slice none 0 0)).setCell ⟨w.heap.size, 5, none⟩ (.slice (some ⟨B, 0, none⟩) 3 3)).setCell ⟨w.heap.size, 6, none⟩ (.slice (some ⟨w9.heap.size, 0, none⟩) 0 0)) from (((((((HB10.out.setCell (p := ⟨hb + 1, 6, none⟩) (by have := HLZ.out; show w.heap.size ≤ hb + 1; omega) (.slice (some ⟨w9.heap.size, 0, none⟩) 0 0)).setCell (p := ⟨w.heap.size, 0, none⟩) (Nat.le_refl _) (.int .i64 1)).setCell (p := ⟨w.heap.size, 1, none⟩) (Nat.le_refl _) (.int .i64 0)).setCell (p := ⟨w.heap.size, 2, none⟩) (Nat.le_refl _) (.slice none 0 0)).setCell (p := ⟨w.heap.size, 3, none⟩) (Nat.le_refl _) (.int .i64 0)).setCell (p := ⟨w.heap.size, 4, none⟩) (Nat.le_refl _) (.slice none 0 0)).setCell (p := ⟨w.heap.size, 5, none⟩) (Nat.le_refl _) (.slice (some ⟨B, 0, none⟩) 3 3)).setCell (p := ⟨w.heap.size, 6, none⟩) (Nat.le_refl _) (.slice (some ⟨w9.heap.size, 0, none⟩) 0 0))
    have HP12 := Lib.hid ((((((((HP10.out.setFar (k := hb + 1) (i := 6) (v := .slice (some ⟨w9.heap.size, 0, none⟩) 0 0) HBQ.out).setFar (k := w.heap.size) (i := 0) (v := .int .i64 1) HBZ.out).setFar (k := w.heap.size) (i := 1) (v := .int .i64 0) HBZ.out).setFar (k := w.heap.size) (i := 2) (v := .slice none 0 0) HBZ.out).setFar (k := w.heap.size) (i := 3) (v := .int .i64 0) HBZ.out).setFar (k := w.heap.size) (i := 4) (v := .slice none 0 0) HBZ.out).setFar (k := w.heap.size) (i := 5) (v := .slice (some ⟨B, 0, none⟩) 3 3) HBZ.out).setFar (k := w.heap.size) (i := 6) (v := .slice (some ⟨w9.heap.size, 0, none⟩) 0 0) HBZ.out)
    have HZ12 := Lib.hid ((((((((HZ11.out).set 0 (.int .i64 1)).set 1 (.int .i64 0)).set 2 (.slice none 0 0)).set 3 (.int .i64 0)).set 4 (.slice none 0 0)).set 5 (.slice (some ⟨B, 0, none⟩) 3 3)).set 6 (.slice (some ⟨w9.heap.size, 0, none⟩) 0 0))
    generalize (((((((w10.setCell ⟨hb + 1, 6, none⟩ (.slice (some ⟨w9.heap.size, 0, none⟩) 0 0)).setCell ⟨w.heap.size, 0, none⟩ (.int .i64 1)).setCell ⟨w.heap.size, 1, none⟩ (.int .i64 0)).setCell ⟨w.heap.size, 2, none⟩ (.slice none 0 0)).setCell ⟨w.heap.size, 3, none⟩ (.int .i64 0)).setCell ⟨w.heap.size, 4, none⟩ (.slice none 0 0)).setCell ⟨w.heap.size, 5, none⟩ (.slice (some ⟨B, 0, none⟩) 3 3)).setCell ⟨w.heap.size, 6, none⟩ (.slice (some ⟨w9.heap.size, 0, none⟩) 0 0) = w12 at *
    have q0 := HZ12.out.cell 0 (v := .int .i64 1) rfl
    have q1 := HZ12.out.cell 1 (v := .int .i64 0) rfl
    have q2 := HZ12.out.cell 2 (v := .slice none 0 0) rfl
    have q3 := HZ12.out.cell 3 (v := .int .i64 0) rfl
    have q4 := HZ12.out.cell 4 (v := .slice none 0 0) rfl
    have q5 := HZ12.out.cell 5 (v := .slice (some ⟨B, 0, none⟩) 3 3) rfl
    have q6 := HZ12.out.cell 6 (v := .slice (some ⟨w9.heap.size, 0, none⟩) 0 0) rfl
    refine bodyPost_ret (v := .tuple #[.agg #[.int .i64 1, .int .i64 0, .slice none 0 0, .int .i64 0, .slice none 0 0, .slice (some ⟨B, 0, none⟩) 3 3, .slice (some ⟨w9.heap.size, 0, none⟩) 0 0], .int .i64 0]) (by simp [results, Tryz.results54, go_sem, q0, q1, q2, q3, q4, q5, q6]) rfl ⟨⟨B, w9.heap.size, rfl, HP12.out⟩, HB12.out⟩
  · have HI := Lib.hid (show ∀ i, i < 4 → IsI (f i) ∧ IsI (g i) from hi); clear hi
    have HBY := Lib.hid (show By w A c (2 :: ptsB f g 4) from hb); have HT := Lib.hid hT; clear hb hT
    rw [show ((2 : Int) + 2).toNat = 4 from rfl]
    have hln : (ptsB f g 4).length = 64 := ptsB_len f g 4
    obtain ⟨b, off, rfl, -, -⟩ := HBY.out.at_ (by simp)
    have hcp := HBY.out.cap
    simp only [List.length_cons, hln] at hcp
    have hmx := HBY.out.max
    unfold maxLen at hmx
    have hc1 : ¬ (c = 1) := by omega
    have HLN := Lib.hid hln; clear hln
    go_enter Tryz.func54, Tryz.ntmps54
    go_wp2_with fail
    have HZ := Lib.hid (Bx.new w #[.int .i64 0, .int .i64 0, .slice none 0 0, .int .i64 0, .slice none 0 0, .slice none 0 0, .slice none 0 0] 99)
    have HBY1 := Lib.hid (HBY.out.alloc (.cells #[.int .i64 0, .int .i64 0, .slice none 0 0, .int .i64 0, .slice none 0 0, .slice none 0 0, .slice none 0 0] 99)); have HT1 := Lib.hid (HT.out.alloc (.cells #[.int .i64 0, .int .i64 0, .slice none 0 0, .int .i64 0, .slice none 0 0, .slice none 0 0, .slice none 0 0] 99))
    have HB1 := Lib.hid (show Below w.heap.size w (w.alloc (.cells #[.int .i64 0, .int .i64 0, .slice none 0 0, .int .i64 0, .slice none 0 0, .slice none 0 0, .slice none 0 0] 99)) from below_al below_rf)
    generalize w.alloc (.cells #[.int .i64 0, .int .i64 0, .slice none 0 0, .int .i64 0, .slice none 0 0, .slice none 0 0, .slice none 0 0] 99) = w1 at *
    clear HBY HT
    have hcl := header_Classify12 (some ⟨b, off, none⟩) c 2 (by decide) (ptsB f g 4) w1 HT1.out HBY1.out (by rw [HLN.out]; rfl)
    have hpa := fun w0 => header_Parse12 (some ⟨b, off, none⟩) c 2 (by decide) (ptsB f g 4) w0
    rw [HLN.out] at hcl hpa
    have HCL := Lib.hid hcl; have HPA := Lib.hid hpa; clear hcl hpa
    refine HCL.out.mono ?_
    rintro e w2 ⟨rfl, B⟩
    have HBY2 := Lib.hid (HBY1.out.below B (Nat.le_refl _)); have HT2 := Lib.hid (HT1.out.below B (Nat.le_refl _)); have HZ2 := Lib.hid (HZ.out.below B (Nat.le_refl _)); have HB2 := Lib.hid (HB1.out.trans (B.mono HB1.out.size)); clear B HBY1 HT1 HZ HB1 HCL
    go_wp2_with fail
    refine (HPA.out _ HBY2.out).mono ?_
    rintro e w3 ⟨rfl, B⟩
    have HBY3 := Lib.hid (HBY2.out.below B (Nat.le_refl _)); have HZ3 := Lib.hid (HZ2.out.below B (Nat.le_refl _)); have HB3 := Lib.hid (HB2.out.trans (B.mono HB2.out.size)); clear B HBY2 HT2 HZ2 HB2 HPA
    go_wp2_with fail
    have HR := Lib.hid (show Rd (((w3.alloc (.cells #[.int .i64 2, .int .i64 0, .slice none 0 0, .int .i64 0] 28)).alloc (.cells #[.int .i64 2, .int .i64 0, .slice none 0 0, .int .i64 0, .slice none 0 0, .slice none 0 0, .slice none 0 0] 99)).alloc (.cells #[.slice (some ⟨b, off + 1, none⟩) 64 (c - 1)] 131)) (w3.heap.size + 1 + 1) (ptsB f g 4) from by
      have h1 := HBY3.out.tail
      rw [if_neg hc1] at h1
      refine ⟨some ⟨b, off + 1, none⟩, c - 1, ?_, ((h1.alloc _).alloc _).alloc _⟩
      rw [HLN.out]; exact bx_new (by simp))
    have HH := Lib.hid (show Bx (((w3.alloc (.cells #[.int .i64 2, .int .i64 0, .slice none 0 0, .int .i64 0] 28)).alloc (.cells #[.int .i64 2, .int .i64 0, .slice none 0 0, .int .i64 0, .slice none 0 0, .slice none 0 0, .slice none 0 0] 99)).alloc (.cells #[.slice (some ⟨b, off + 1, none⟩) 64 (c - 1)] 131)) w3.heap.size #[.int .i64 2, .int .i64 0, .slice none 0 0, .int .i64 0] 28 from ((Bx.new _ _ _).alloc _).alloc _)
    have HQ := Lib.hid (show Bx (((w3.alloc (.cells #[.int .i64 2, .int .i64 0, .slice none 0 0, .int .i64 0] 28)).alloc (.cells #[.int .i64 2, .int .i64 0, .slice none 0 0, .int .i64 0, .slice none 0 0, .slice none 0 0, .slice none 0 0] 99)).alloc (.cells #[.slice (some ⟨b, off + 1, none⟩) 64 (c - 1)] 131)) (w3.heap.size + 1) #[.int .i64 2, .int .i64 0, .slice none 0 0, .int .i64 0, .slice none 0 0, .slice none 0 0, .slice none 0 0] 99 from (bx_new (by simp)).alloc _)
    have HZ6 := Lib.hid (show Bx (((w3.alloc (.cells #[.int .i64 2, .int .i64 0, .slice none 0 0, .int .i64 0] 28)).alloc (.cells #[.int .i64 2, .int .i64 0, .slice none 0 0, .int .i64 0, .slice none 0 0, .slice none 0 0, .slice none 0 0] 99)).alloc (.cells #[.slice (some ⟨b, off + 1, none⟩) 64 (c - 1)] 131)) w.heap.size #[.int .i64 0, .int .i64 0, .slice none 0 0, .int .i64 0, .slice none 0 0, .slice none 0 0, .slice none 0 0] 99 from ((HZ3.out.alloc _).alloc _).alloc _)
    have HB6 := Lib.hid (show Below w.heap.size w (((w3.alloc (.cells #[.int .i64 2, .int .i64 0, .slice none 0 0, .int .i64 0] 28)).alloc (.cells #[.int .i64 2, .int .i64 0, .slice none 0 0, .int .i64 0, .slice none 0 0, .slice none 0 0, .slice none 0 0] 99)).alloc (.cells #[.slice (some ⟨b, off + 1, none⟩) 64 (c - 1)] 131)) from ((HB3.out.alloc HB3.out.size _).alloc (by have := HB3.out.size; simp; omega) _).alloc (by have := HB3.out.size; simp; omega) _)
    have HLZ := Lib.hid (show w.heap.size < w3.heap.size from HZ3.out.lt)
    generalize ((w3.alloc (.cells #[.int .i64 2, .int .i64 0, .slice none 0 0, .int .i64 0] 28)).alloc (.cells #[.int .i64 2, .int .i64 0, .slice none 0 0, .int .i64 0, .slice none 0 0, .slice none 0 0, .slice none 0 0] 99)).alloc (.cells #[.slice (some ⟨b, off + 1, none⟩) 64 (c - 1)] 131) = w6 at *
    clear HBY3 HZ3 HB3
    generalize w3.heap.size = hb at *
    refine wp_loop_rounds 1 ?_
    rw [rounds_succ]
    have c0 := HH.out.cell 0 (v := .int .i64 2) rfl
    have c1 := HH.out.cell 1 (v := .int .i64 0) rfl
    have c2 := HH.out.cell 2 (v := .slice none 0 0) rfl
    have c3 := HH.out.cell 3 (v := .int .i64 0) rfl
    go_wp2_with fail
    clear c0 c1 c2 c3
    refine (codec_counts12 2 (by decide) _).mono ?_
    rintro e w7 ⟨rfl, B⟩
    have HR7 := Lib.hid (HR.out.below B (Nat.le_refl _)); have HQ7 := Lib.hid (HQ.out.below B (Nat.le_refl _)); have HZ7 := Lib.hid (HZ6.out.below B (Nat.le_refl _)); have HB7 := Lib.hid (HB6.out.trans (B.mono HB6.out.size)); clear B HR HQ HZ6 HB6 HH
    rw [show (2 : Int) + 2 = 4 from rfl]
    go_wp2_with fail
    refine (take_pts (hb + 1 + 1) 4 (by decide) f g HI.out [] _ (by rw [List.append_nil]; exact HR7.out)).mono ?_
    rintro e w8 ⟨⟨B, rfl, hBl, hP⟩, hR, g8⟩
    have HP8 := Lib.hid hP; have HR8 := Lib.hid hR; have HQ8 := Lib.hid (bx_gr HQ7.out (by omega) g8); have HZ8 := Lib.hid (bx_gr HZ7.out (by have := HLZ.out; omega) g8); have HB8 := Lib.hid (below_gr HB7.out (by have := HLZ.out; omega) HB7.out.size g8)
    have HBQ := Lib.hid (show B ≠ hb + 1 from by have := HQ7.out.lt; omega)
    have HBZ := Lib.hid (show B ≠ w.heap.size from by have := HZ7.out.lt; omega)
    clear hP hR g8 HR7 HQ7 HZ7 HB7 hBl
    have c5 := HQ8.out.cell 5 (v := .slice none 0 0) rfl
    have z5 := HQ8.out.free 5
    go_wp2_with fail
    clear c5 z5
    have HQ9 := Lib.hid (HQ8.out.set 5 (.slice (some ⟨B, 0, none⟩) 4 4)); have HP9 := Lib.hid (HP8.out.setFar (k := hb + 1) (i := 5) (v := .slice (some ⟨B, 0, none⟩) 4 4) HBQ.out); have HZ9 := Lib.hid (HZ8.out.other (a := ⟨hb + 1, 5, none⟩) (.slice (some ⟨B, 0, none⟩) 4 4) (by have := HLZ.out; show w.heap.size ≠ hb + 1; omega)); have HB9 := Lib.hid (HB8.out.setCell (p := ⟨hb + 1, 5, none⟩) (by have := HLZ.out; show w.heap.size ≤ hb + 1; omega) (.slice (some ⟨B, 0, none⟩) 4 4))
    generalize w8.setCell ⟨hb + 1, 5, none⟩ (.slice (some ⟨B, 0, none⟩) 4 4) = w9 at *
    clear HQ8 HP8 HZ8 HB8 HR8
    refine (take_qus0 _ _).mono ?_
    rintro e w10 ⟨rfl, B10⟩
    have HQ10 := Lib.hid (HQ9.out.below B10 (Nat.le_refl _)); have HP10 := Lib.hid (HP9.out.below B10 (Nat.le_refl _)); have HZ10 := Lib.hid (HZ9.out.below B10 (Nat.le_refl _)); have HB10 := Lib.hid (HB9.out.trans (B10.mono HB9.out.size)); clear B10 HQ9 HP9 HZ9 HB9
    have c6 := HQ10.out.cell 6 (v := .slice none 0 0) rfl
    have z6 := HQ10.out.free 6
    have HQ11 := Lib.hid (HQ10.out.set 6 (.slice (some ⟨w9.heap.size, 0, none⟩) 0 0)); have HZ11 := Lib.hid (HZ10.out.other (a := ⟨hb + 1, 6, none⟩) (.slice (some ⟨w9.heap.size, 0, none⟩) 0 0) (by have := HLZ.out; show w.heap.size ≠ hb + 1; omega))
    have d0 := HQ11.out.cell 0 (v := .int .i64 2) rfl
    have d1 := HQ11.out.cell 1 (v := .int .i64 0) rfl
    have d2 := HQ11.out.cell 2 (v := .slice none 0 0) rfl
    have d3 := HQ11.out.cell 3 (v := .int .i64 0) rfl
    have d4 := HQ11.out.cell 4 (v := .slice none 0 0) rfl
    have d5 := HQ11.out.cell 5 (v := .slice (some ⟨B, 0, none⟩) 4 4) rfl
    have d6 := HQ11.out.cell 6 (v := .slice (some ⟨w9.heap.size, 0, none⟩) 0 0) rfl
    have e0 := HZ11.out.cell 0 (v := .int .i64 0) rfl
    have y0 := HZ11.out.free 0
    have e1 := HZ11.out.cell 1 (v := .int .i64 0) rfl
    have y1 := HZ11.out.free 1
    have e2 := HZ11.out.cell 2 (v := .slice none 0 0) rfl
    have y2 := HZ11.out.free 2
    have e3 := HZ11.out.cell 3 (v := .int .i64 0) rfl
    have y3 := HZ11.out.free 3
    have e4 := HZ11.out.cell 4 (v := .slice none 0 0) rfl
    have y4 := HZ11.out.free 4
    have e5 := HZ11.out.cell 5 (v := .slice none 0 0) rfl
    have y5 := HZ11.out.free 5
    have e6 := HZ11.out.cell 6 (v := .slice none 0 0) rfl
    have y6 := HZ11.out.free 6
    go_wp2_with fail
    clear c6 z6 d0 e0 y0 d1 e1 y1 d2 e2 y2 d3 e3 y3 d4 e4 y4 d5 e5 y5 d6 e6 y6
    have HB12 := Lib.hid (show Below w.heap.size w ((((((((w10.setCell ⟨hb + 1, 6, none⟩ (.slice (some ⟨w9.heap.size, 0, none⟩) 0 0)).setCell ⟨w.heap.size, 0, none⟩ (.int .i64 2)).setCell ⟨w.heap.size, 1, none⟩ (.int .i64 0)).setCell ⟨w.heap.size, 2, none⟩ (.slice none 0 0)).setCell ⟨w.heap.size, 3, none⟩ (.int .i64 0)).setCell ⟨w.heap.size, 4, none⟩ (.slice none 0 0)).setCell ⟨w.heap.size, 5, none⟩ (.slice (some ⟨B, 0, none⟩) 4 4)).setCell ⟨w.heap.size, 6, none⟩ (.slice (some ⟨w9.heap.size, 0, none⟩) 0 0)) from (((((((HB10.out.setCell (p := ⟨hb + 1, 6, none⟩) (by have := HLZ.out; show w.heap.size ≤ hb + 1; omega) (.slice (some ⟨w9.heap.size, 0, none⟩) 0 0)).setCell (p := ⟨w.heap.size, 0, none⟩) (Nat.le_refl _) (.int .i64 2)).setCell (p := ⟨w.heap.size, 1, none⟩) (Nat.le_refl _) (.int .i64 0)).setCell (p := ⟨w.heap.size, 2, none⟩) (Nat.le_refl _) (.slice none 0 0)).setCell (p := ⟨w.heap.size, 3, none⟩) (Nat.le_refl _) (.int .i64 0)).setCell (p := ⟨w.heap.size, 4, none⟩) (Nat.le_refl _) (.slice none 0 0)).setCell (p := ⟨w.heap.size, 5, none⟩) (Nat.le_refl _) (.slice (some ⟨B, 0, none⟩) 4 4)).setCell (p := ⟨w.heap.size, 6, none⟩) (Nat.le_refl _) (.slice (some ⟨w9.heap.size, 0, none⟩) 0 0))
    have HP12 := Lib.hid ((((((((HP10.out.setFar (k := hb + 1) (i := 6) (v := .slice (some ⟨w9.heap.size, 0, none⟩) 0 0) HBQ.out).setFar (k := w.heap.size) (i := 0) (v := .int .i64 2) HBZ.out).setFar (k := w.heap.size) (i := 1) (v := .int .i64 0) HBZ.out).setFar (k := w.heap.size) (i := 2) (v := .slice none 0 0) HBZ.out).setFar (k := w.heap.size) (i := 3) (v := .int .i64 0) HBZ.out).setFar (k := w.heap.size) (i := 4) (v := .slice none 0 0) HBZ.out).setFar (k := w.heap.size) (i := 5) (v := .slice (some ⟨B, 0, none⟩) 4 4) HBZ.out).setFar (k := w.heap.size) (i := 6) (v := .slice (some ⟨w9.heap.size, 0, none⟩) 0 0) HBZ.out)
    have HZ12 := Lib.hid ((((((((HZ11.out).set 0 (.int .i64 2)).set 1 (.int .i64 0)).set 2 (.slice none 0 0)).set 3 (.int .i64 0)).set 4 (.slice none 0 0)).set 5 (.slice (some ⟨B, 0, none⟩) 4 4)).set 6 (.slice (some ⟨w9.heap.size, 0, none⟩) 0 0))
    generalize (((((((w10.setCell ⟨hb + 1, 6, none⟩ (.slice (some ⟨w9.heap.size, 0, none⟩) 0 0)).setCell ⟨w.heap.size, 0, none⟩ (.int .i64 2)).setCell ⟨w.heap.size, 1, none⟩ (.int .i64 0)).setCell ⟨w.heap.size, 2, none⟩ (.slice none 0 0)).setCell ⟨w.heap.size, 3, none⟩ (.int .i64 0)).setCell ⟨w.heap.size, 4, none⟩ (.slice none 0 0)).setCell ⟨w.heap.size, 5, none⟩ (.slice (some ⟨B, 0, none⟩) 4 4)).setCell ⟨w.heap.size, 6, none⟩ (.slice (some ⟨w9.heap.size, 0, none⟩) 0 0) = w12 at *
    have q0 := HZ12.out.cell 0 (v := .int .i64 2) rfl
    have q1 := HZ12.out.cell 1 (v := .int .i64 0) rfl
    have q2 := HZ12.out.cell 2 (v := .slice none 0 0) rfl
    have q3 := HZ12.out.cell 3 (v := .int .i64 0) rfl
    have q4 := HZ12.out.cell 4 (v := .slice none 0 0) rfl
    have q5 := HZ12.out.cell 5 (v := .slice (some ⟨B, 0, none⟩) 4 4) rfl
    have q6 := HZ12.out.cell 6 (v := .slice (some ⟨w9.heap.size, 0, none⟩) 0 0) rfl
    refine bodyPost_ret (v := .tuple #[.agg #[.int .i64 2, .int .i64 0, .slice none 0 0, .int .i64 0, .slice none 0 0, .slice (some ⟨B, 0, none⟩) 4 4, .slice (some ⟨w9.heap.size, 0, none⟩) 0 0], .int .i64 0]) (by simp [results, Tryz.results54, go_sem, q0, q1, q2, q3, q4, q5, q6]) rfl ⟨⟨B, w9.heap.size, rfl, HP12.out⟩, HB12.out⟩
end Go.Proofs.YtjdiilkljgljkaaGreatDoor
