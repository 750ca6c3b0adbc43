/- Orientation of a polygon; the reference's helpers. -/
import Derived.Test.YtoikcgmdlccdbaaDoorPolyIt
import Derived.Test.YtoikcgmdlccdbaaDoorOrient
import Derived.Test.YtoikcgmdlccdbaaDoorRef6
import Derived.Deep.RegionHeld3
namespace Go.Proofs.YtoikcgmdlccdbaaDoor
set_option linter.unusedVariables false
set_option linter.unusedSimpArgs false
open Go.RowKit Wd

theorem isIP {w : World} {A : Option Addr} {n c : Nat} {f g : Nat → Int} (h : Pts w A n c f g) {i j k : Nat} (hi : i < n) (hj : j < n) (hk : k < n) : P3 (f i) (g i) (f j) (g j) (f k) (g k) :=
  ⟨(h.isi i hi).1, (h.isi i hi).2, (h.isi j hj).1, (h.isi j hj).2, (h.isi k hk).1, (h.isi k hk).2⟩
theorem isIP2 {w : World} {A : Option Addr} {n c : Nat} {f g : Nat → Int} (h : Pts w A n c f g) {i j : Nat} {x y : Int} (hi : i < n) (hj : j < n) (hx : IsI x) (hy : IsI y) : P3 (f i) (g i) (f j) (g j) x y :=
  ⟨(h.isi i hi).1, (h.isi i hi).2, (h.isi j hj).1, (h.isi j hj).2, hx, hy⟩
theorem Pts.c6 {w : World} {A : Option Addr} {n c : Nat} {f g : Nat → Int} (h : Pts w A n c f g) (hn : 3 ≤ n) : ∃ b off, A = some ⟨b, off, none⟩ ∧ C6 w b off (f 0) (g 0) (f 1) (g 1) (f 2) (g 2) := by
  obtain ⟨b, off, e, hlt, hc⟩ := h.at_ (by omega)
  exact ⟨b, off, e, hlt, (hc 0 (by omega)).1, (hc 0 (by omega)).2, (hc 1 (by omega)).1, (hc 1 (by omega)).2, (hc 2 (by omega)).1, (hc 2 (by omega)).2⟩
theorem Pts.one {w : World} {b off n c : Nat} {f g : Nat → Int} (h : Pts w (some ⟨b, off, none⟩) n c f g) {i : Nat} (hi : i < n) : Pt1 w b (off + i * 2) (f i) (g i) := by
  obtain ⟨b', off', e, hlt, hc⟩ := h.at_ (by omega)
  cases e
  exact ⟨hlt, (hc i hi).1, (hc i hi).2⟩
theorem Pts.some {w : World} {A : Option Addr} {n c : Nat} {f g : Nat → Int} (h : Pts w A n c f g) (hn : 0 < n) : ∃ b off, A = some ⟨b, off, none⟩ := by
  obtain ⟨b, off, e, _⟩ := h.at_ hn; exact ⟨b, off, e⟩
set_option maxHeartbeats 4000000 in
theorem polygon_Orientation (A : Option Addr) (n c : Nat) (f g : Nat → Int) (w : World) (hT : TabM w) (hp : Pts w A n c f g) :
    Calls Tryd.prog 42 #[.slice A n c] w fun e w' => e = .returned (.int .i64 (ori f g n)) ∧ Below w.heap.size w w' := by
  by_cases hin : inP n
  · have hn3 := hin.1; have hn64 := hin.2
    have q1 : ¬ ((n : Int) < 3) := by omega
    have q2 : ¬ ((64 : Int) < n) := by omega
    obtain ⟨b, off, rfl, hx⟩ := hp.c6 hn3
    have hp3 := isIP hp (i := 0) (j := 1) (k := 2) (by omega) (by omega) (by omega)
    rw [ori_in hin]
    have hm := Nat.le_trans hp.cap hp.max
    have i0 : 0 < n := by omega
    have i1 : (1 : Int) < n := by omega
    have i2 : (2 : Int) < n := by omega
    clear hp
    have HB0 := Lib.hid (Below.refl w.heap.size w)
    have FT := Lib.hid hT
    have FY := Lib.hid hx
    clear hT hx
    go_enter Tryd.func42, Tryd.ntmps42
    go_wp2_with fail
    have RB0 := Lib.hid (below_drew0 w)
    have QF0 := Lib.hid (show ∀ w', Below w.heap.size w w' → w'.cell? ⟨b, off, none⟩ = some (.int .i64 (f 0)) ∧ w'.cell? ⟨b, off + 1, none⟩ = some (.int .i64 (g 0)) ∧ w'.cell? ⟨b, off + 2, none⟩ = some (.int .i64 (f 1)) ∧ w'.cell? ⟨b, off + 3, none⟩ = some (.int .i64 (g 1)) ∧ w'.cell? ⟨b, off + 4, none⟩ = some (.int .i64 (f 2)) ∧ w'.cell? ⟨b, off + 5, none⟩ = some (.int .i64 (g 2)) from fun w' hb => ⟨(FY.out.below hb (Nat.le_refl _)).c0, (FY.out.below hb (Nat.le_refl _)).c1, (FY.out.below hb (Nat.le_refl _)).c2, (FY.out.below hb (Nat.le_refl _)).c3, (FY.out.below hb (Nat.le_refl _)).c4, (FY.out.below hb (Nat.le_refl _)).c5⟩)
    refine wp_region_held_drew (S := fun w' => w'.cell? ⟨b, off, none⟩ = some (.int .i64 (f 0)) ∧ w'.cell? ⟨b, off + 1, none⟩ = some (.int .i64 (g 0)) ∧ w'.cell? ⟨b, off + 2, none⟩ = some (.int .i64 (f 1)) ∧ w'.cell? ⟨b, off + 3, none⟩ = some (.int .i64 (g 1)) ∧ w'.cell? ⟨b, off + 4, none⟩ = some (.int .i64 (f 2)) ∧ w'.cell? ⟨b, off + 5, none⟩ = some (.int .i64 (g 2))) (by kernel_rfl) (QF0.out _ RB0.out) (fun hHeld => ?_)
    refine wpAnyH_take (i := 0) (v := ?_) (by simp only [List.getElem?_toArray, List.getElem?_cons_succ, List.getElem?_cons_zero]; rfl) (by kernel_rfl) (by kernel_rfl) (by kernel_rfl) (by intro _ _ _ h; exact h) (Or.inl ⟨by rfl, ?_⟩) hHeld ?_
    rotate_left 1
    · intro w hSw; (try dsimp only at hSw); go_simp; try with_reducible rfl
    try simp only [Act.put, List.setIfInBounds_toArray, List.set_cons_zero, List.set_cons_succ]
    refine wpAnyH_take (i := 1) (v := ?_) (by simp only [List.getElem?_toArray, List.getElem?_cons_succ, List.getElem?_cons_zero]; rfl) (by kernel_rfl) (by kernel_rfl) (by kernel_rfl) (by intro _ _ _ h; exact h) (Or.inl ⟨by rfl, ?_⟩) hHeld ?_
    rotate_left 1
    · intro w hSw; (try dsimp only at hSw); go_simp; try with_reducible rfl
    try simp only [Act.put, List.setIfInBounds_toArray, List.set_cons_zero, List.set_cons_succ]
    refine wpAnyH_take (i := 2) (v := ?_) (by simp only [List.getElem?_toArray, List.getElem?_cons_succ, List.getElem?_cons_zero]; rfl) (by kernel_rfl) (by kernel_rfl) (by kernel_rfl) (by intro _ _ _ h; exact h) (Or.inl ⟨by rfl, ?_⟩) hHeld ?_
    rotate_left 1
    · intro w hSw; (try dsimp only at hSw); go_simp; try with_reducible rfl
    try simp only [Act.put, List.setIfInBounds_toArray, List.set_cons_zero, List.set_cons_succ]
    refine wpAnyH_take (i := 3) (v := ?_) (by simp only [List.getElem?_toArray, List.getElem?_cons_succ, List.getElem?_cons_zero]; rfl) (by kernel_rfl) (by kernel_rfl) (by kernel_rfl) (by intro _ _ _ h; exact h) (Or.inl ⟨by rfl, ?_⟩) hHeld ?_
    rotate_left 1
    · intro w hSw; (try dsimp only at hSw); go_simp; try with_reducible rfl
    try simp only [Act.put, List.setIfInBounds_toArray, List.set_cons_zero, List.set_cons_succ]
    refine wpAnyH_take (i := 4) (v := ?_) (by simp only [List.getElem?_toArray, List.getElem?_cons_succ, List.getElem?_cons_zero]; rfl) (by kernel_rfl) (by kernel_rfl) (by kernel_rfl) (by intro _ _ _ h; exact h) (Or.inl ⟨by rfl, ?_⟩) hHeld ?_
    rotate_left 1
    · intro w hSw; (try dsimp only at hSw); go_simp; try with_reducible rfl
    try simp only [Act.put, List.setIfInBounds_toArray, List.set_cons_zero, List.set_cons_succ]
    refine wpAnyH_take (i := 5) (v := ?_) (by simp only [List.getElem?_toArray, List.getElem?_cons_succ, List.getElem?_cons_zero]; rfl) (by kernel_rfl) (by kernel_rfl) (by kernel_rfl) (by intro _ _ _ h; exact h) (Or.inl ⟨by rfl, ?_⟩) hHeld ?_
    rotate_left 1
    · intro w hSw; (try dsimp only at hSw); go_simp; try with_reducible rfl
    try simp only [Act.put, List.setIfInBounds_toArray, List.set_cons_zero, List.set_cons_succ]
    refine wpAnyH_take (i := 6) (v := ?_) (by simp only [List.getElem?_toArray, List.getElem?_cons_succ, List.getElem?_cons_zero]; rfl) (by kernel_rfl) (by kernel_rfl) (by kernel_rfl) (by intro _ _ _ h; exact h) (Or.inl ⟨by rfl, ?_⟩) hHeld ?_
    rotate_left 1
    · intro w hSw; (try dsimp only at hSw); go_simp; try with_reducible rfl
    try simp only [Act.put, List.setIfInBounds_toArray, List.set_cons_zero, List.set_cons_succ]
    refine wpAnyH_take (i := 7) (v := ?_) (by simp only [List.getElem?_toArray, List.getElem?_cons_succ, List.getElem?_cons_zero]; rfl) (by kernel_rfl) (by kernel_rfl) (by kernel_rfl) (by intro _ _ _ h; exact h) (Or.inl ⟨by rfl, ?_⟩) hHeld ?_
    rotate_left 1
    · intro w hSw; (try dsimp only at hSw); go_simp; try with_reducible rfl
    try simp only [Act.put, List.setIfInBounds_toArray, List.set_cons_zero, List.set_cons_succ]
    refine wpAnyH_take (i := 8) (v := ?_) (by simp only [List.getElem?_toArray, List.getElem?_cons_succ, List.getElem?_cons_zero]; rfl) (by kernel_rfl) (by kernel_rfl) (by kernel_rfl) (by intro _ _ _ h; exact h) (Or.inl ⟨by rfl, ?_⟩) hHeld ?_
    rotate_left 1
    · intro w hSw; (try dsimp only at hSw); go_simp; try with_reducible rfl
    try simp only [Act.put, List.setIfInBounds_toArray, List.set_cons_zero, List.set_cons_succ]
    refine wpAnyH_ready (rs := [9]) (by kernel_rfl) (by simp) ?_
    refine AllReadyH.cons (by simp only [List.getElem?_toArray, List.getElem?_cons_succ, List.getElem?_cons_zero]; rfl) (fun K hK => ?_) AllReadyH.nil
    go_simp
    refine (orient_Sign _ _ _ _ _ _ hp3 _ (FT.out.below RB0.out (Nat.le_refl _))).mono ?_
    rintro e w1 ⟨rfl, B⟩
    have RB1 := Lib.hid (RB0.out.trans (B.mono RB0.out.size))
    clear B 
    go_wp2_with fail
    refine hK.out _ _ (QF0.out _ RB1.out) (fun hHeld1 => ?_)
    clear hK K hHeld; have hHeld := hHeld1; clear hHeld1
    try simp only [Act.put, List.setIfInBounds_toArray, List.set_cons_zero, List.set_cons_succ]
    refine wpAnyH_take (i := 10) (v := ?_) (by simp only [List.getElem?_toArray, List.getElem?_cons_succ, List.getElem?_cons_zero]; rfl) (by kernel_rfl) (by kernel_rfl) (by kernel_rfl) (by intro _ _ _ h; exact h) (Or.inl ⟨by rfl, ?_⟩) hHeld ?_
    rotate_left 1
    · intro w hSw; (try dsimp only at hSw); go_simp; try with_reducible rfl
    try simp only [Act.put, List.setIfInBounds_toArray, List.set_cons_zero, List.set_cons_succ]
    refine wpAnyH_done (by kernel_rfl) ?_ _
    have FT_1 := Lib.hid (FT.out.below RB1.out (Nat.le_refl _))
    have FY_1 := Lib.hid (FY.out.below RB1.out (Nat.le_refl _))
    have HB1 := Lib.hid (HB0.out.trans (RB1.out.mono HB0.out.size))
    clear hHeld HB0 FT FY
    go_wp2_with fail
    go_ret
    exact ⟨rfl, HB1.out⟩
  · rw [ori_out hin]
    have hm := Nat.le_trans hp.cap hp.max
    unfold inP at hin
    rcases (by omega : n < 3 ∨ (3 ≤ n ∧ 64 < n)) with h | ⟨h2, h⟩
    · have q1 : (n : Int) < 3 := by omega
      go_enter Tryd.func42, Tryd.ntmps42
      go_wp2_with fail
      go_ret
      exact ⟨rfl, Below.refl _ _⟩
    · have q1 : ¬ ((n : Int) < 3) := by omega
      have q2 : (64 : Int) < n := by omega
      go_enter Tryd.func42, Tryd.ntmps42
      go_wp2_with fail
      go_ret
      exact ⟨rfl, Below.refl _ _⟩
set_option maxHeartbeats 1000000 in
theorem ref14_Is (A : Option Addr) (n c : Nat) (hn : n ≤ maxLen) (w : World) :
    Calls Tryd.prog 50 #[.slice A n c] w fun e w' => e = .returned (.bool (decide (inP n))) ∧ Below w.heap.size w w' := by
  by_cases hin : inP n
  · have q1 : (3 : Int) ≤ n := by have := hin.1; omega
    have q2 : (n : Int) ≤ 64 := by have := hin.2; omega
    rw [show decide (inP n) = true from by simpa using hin]
    go_enter Tryd.func50, Tryd.ntmps50
    go_wp2_with fail
    go_ret
    exact ⟨rfl, Below.refl _ _⟩
  · rw [show decide (inP n) = false from by simpa using hin]
    unfold inP at hin
    rcases (by omega : n < 3 ∨ (3 ≤ n ∧ 64 < n)) with h | ⟨h2, h⟩
    · have q1 : ¬ ((3 : Int) ≤ n) := by omega
      go_enter Tryd.func50, Tryd.ntmps50
      go_wp2_with fail
      go_ret
      exact ⟨rfl, Below.refl _ _⟩
    · have q1 : (3 : Int) ≤ n := by omega
      have q2 : ¬ ((n : Int) ≤ 64) := by omega
      go_enter Tryd.func50, Tryd.ntmps50
      go_wp2_with fail
      go_ret
      exact ⟨rfl, Below.refl _ _⟩
set_option maxHeartbeats 4000000 in
theorem ref14_Orientation (A : Option Addr) (n c : Nat) (f g : Nat → Int) (w : World) (hp : Pts w A n c f g) :
    Calls Tryd.prog 43 #[.slice A n c] w fun e w' => e = .returned (.int .i64 (ori f g n)) ∧ Below w.heap.size w w' := by
  by_cases hin : inP n
  · have hn3 := hin.1; have hn64 := hin.2
    have q1 : ¬ ((n : Int) < 3) := by omega
    have q2 : ¬ ((64 : Int) < n) := by omega
    obtain ⟨b, off, rfl, hx⟩ := hp.c6 hn3
    have hp3 := isIP hp (i := 0) (j := 1) (k := 2) (by omega) (by omega) (by omega)
    rw [ori_in hin]
    have hm := Nat.le_trans hp.cap hp.max
    have i0 : 0 < n := by omega
    have i1 : (1 : Int) < n := by omega
    have i2 : (2 : Int) < n := by omega
    clear hp
    have HB0 := Lib.hid (Below.refl w.heap.size w)
    have FY := Lib.hid hx
    clear hx
    go_enter Tryd.func43, Tryd.ntmps43
    go_wp2_with fail
    refine (ref14_Is _ n c hm _).mono ?_
    rintro e w1 ⟨rfl, B⟩
    have HB1 := Lib.hid (HB0.out.trans (B.mono HB0.out.size))
    have FY_1 := Lib.hid (FY.out.below B (Nat.le_refl _))
    clear B  HB0 FY
    rw [show decide (inP n) = true from by simpa using hin]
    go_wp2_with fail
    have RB1 := Lib.hid (below_drew0 w1)
    have QF1 := Lib.hid (show ∀ w', Below w1.heap.size w1 w' → w'.cell? ⟨b, off, none⟩ = some (.int .i64 (f 0)) ∧ w'.cell? ⟨b, off + 1, none⟩ = some (.int .i64 (g 0)) ∧ w'.cell? ⟨b, off + 2, none⟩ = some (.int .i64 (f 1)) ∧ w'.cell? ⟨b, off + 3, none⟩ = some (.int .i64 (g 1)) ∧ w'.cell? ⟨b, off + 4, none⟩ = some (.int .i64 (f 2)) ∧ w'.cell? ⟨b, off + 5, none⟩ = some (.int .i64 (g 2)) from fun w' hb => ⟨(FY_1.out.below hb (Nat.le_refl _)).c0, (FY_1.out.below hb (Nat.le_refl _)).c1, (FY_1.out.below hb (Nat.le_refl _)).c2, (FY_1.out.below hb (Nat.le_refl _)).c3, (FY_1.out.below hb (Nat.le_refl _)).c4, (FY_1.out.below hb (Nat.le_refl _)).c5⟩)
    refine wp_region_held_drew (S := fun w' => w'.cell? ⟨b, off, none⟩ = some (.int .i64 (f 0)) ∧ w'.cell? ⟨b, off + 1, none⟩ = some (.int .i64 (g 0)) ∧ w'.cell? ⟨b, off + 2, none⟩ = some (.int .i64 (f 1)) ∧ w'.cell? ⟨b, off + 3, none⟩ = some (.int .i64 (g 1)) ∧ w'.cell? ⟨b, off + 4, none⟩ = some (.int .i64 (f 2)) ∧ w'.cell? ⟨b, off + 5, none⟩ = some (.int .i64 (g 2))) (by kernel_rfl) (QF1.out _ RB1.out) (fun hHeld => ?_)
    refine wpAnyH_take (i := 0) (v := ?_) (by simp only [List.getElem?_toArray, List.getElem?_cons_succ, List.getElem?_cons_zero]; rfl) (by kernel_rfl) (by kernel_rfl) (by kernel_rfl) (by intro _ _ _ h; exact h) (Or.inl ⟨by rfl, ?_⟩) hHeld ?_
    rotate_left 1
    · intro w hSw; (try dsimp only at hSw); go_simp; try with_reducible rfl
    try simp only [Act.put, List.setIfInBounds_toArray, List.set_cons_zero, List.set_cons_succ]
    refine wpAnyH_take (i := 1) (v := ?_) (by simp only [List.getElem?_toArray, List.getElem?_cons_succ, List.getElem?_cons_zero]; rfl) (by kernel_rfl) (by kernel_rfl) (by kernel_rfl) (by intro _ _ _ h; exact h) (Or.inl ⟨by rfl, ?_⟩) hHeld ?_
    rotate_left 1
    · intro w hSw; (try dsimp only at hSw); go_simp; try with_reducible rfl
    try simp only [Act.put, List.setIfInBounds_toArray, List.set_cons_zero, List.set_cons_succ]
    refine wpAnyH_take (i := 2) (v := ?_) (by simp only [List.getElem?_toArray, List.getElem?_cons_succ, List.getElem?_cons_zero]; rfl) (by kernel_rfl) (by kernel_rfl) (by kernel_rfl) (by intro _ _ _ h; exact h) (Or.inl ⟨by rfl, ?_⟩) hHeld ?_
    rotate_left 1
    · intro w hSw; (try dsimp only at hSw); go_simp; try with_reducible rfl
    try simp only [Act.put, List.setIfInBounds_toArray, List.set_cons_zero, List.set_cons_succ]
    refine wpAnyH_take (i := 3) (v := ?_) (by simp only [List.getElem?_toArray, List.getElem?_cons_succ, List.getElem?_cons_zero]; rfl) (by kernel_rfl) (by kernel_rfl) (by kernel_rfl) (by intro _ _ _ h; exact h) (Or.inl ⟨by rfl, ?_⟩) hHeld ?_
    rotate_left 1
    · intro w hSw; (try dsimp only at hSw); go_simp; try with_reducible rfl
    try simp only [Act.put, List.setIfInBounds_toArray, List.set_cons_zero, List.set_cons_succ]
    refine wpAnyH_take (i := 4) (v := ?_) (by simp only [List.getElem?_toArray, List.getElem?_cons_succ, List.getElem?_cons_zero]; rfl) (by kernel_rfl) (by kernel_rfl) (by kernel_rfl) (by intro _ _ _ h; exact h) (Or.inl ⟨by rfl, ?_⟩) hHeld ?_
    rotate_left 1
    · intro w hSw; (try dsimp only at hSw); go_simp; try with_reducible rfl
    try simp only [Act.put, List.setIfInBounds_toArray, List.set_cons_zero, List.set_cons_succ]
    refine wpAnyH_take (i := 5) (v := ?_) (by simp only [List.getElem?_toArray, List.getElem?_cons_succ, List.getElem?_cons_zero]; rfl) (by kernel_rfl) (by kernel_rfl) (by kernel_rfl) (by intro _ _ _ h; exact h) (Or.inl ⟨by rfl, ?_⟩) hHeld ?_
    rotate_left 1
    · intro w hSw; (try dsimp only at hSw); go_simp; try with_reducible rfl
    try simp only [Act.put, List.setIfInBounds_toArray, List.set_cons_zero, List.set_cons_succ]
    refine wpAnyH_take (i := 6) (v := ?_) (by simp only [List.getElem?_toArray, List.getElem?_cons_succ, List.getElem?_cons_zero]; rfl) (by kernel_rfl) (by kernel_rfl) (by kernel_rfl) (by intro _ _ _ h; exact h) (Or.inl ⟨by rfl, ?_⟩) hHeld ?_
    rotate_left 1
    · intro w hSw; (try dsimp only at hSw); go_simp; try with_reducible rfl
    try simp only [Act.put, List.setIfInBounds_toArray, List.set_cons_zero, List.set_cons_succ]
    refine wpAnyH_take (i := 7) (v := ?_) (by simp only [List.getElem?_toArray, List.getElem?_cons_succ, List.getElem?_cons_zero]; rfl) (by kernel_rfl) (by kernel_rfl) (by kernel_rfl) (by intro _ _ _ h; exact h) (Or.inl ⟨by rfl, ?_⟩) hHeld ?_
    rotate_left 1
    · intro w hSw; (try dsimp only at hSw); go_simp; try with_reducible rfl
    try simp only [Act.put, List.setIfInBounds_toArray, List.set_cons_zero, List.set_cons_succ]
    refine wpAnyH_take (i := 8) (v := ?_) (by simp only [List.getElem?_toArray, List.getElem?_cons_succ, List.getElem?_cons_zero]; rfl) (by kernel_rfl) (by kernel_rfl) (by kernel_rfl) (by intro _ _ _ h; exact h) (Or.inl ⟨by rfl, ?_⟩) hHeld ?_
    rotate_left 1
    · intro w hSw; (try dsimp only at hSw); go_simp; try with_reducible rfl
    try simp only [Act.put, List.setIfInBounds_toArray, List.set_cons_zero, List.set_cons_succ]
    refine wpAnyH_ready (rs := [9]) (by kernel_rfl) (by simp) ?_
    refine AllReadyH.cons (by simp only [List.getElem?_toArray, List.getElem?_cons_succ, List.getElem?_cons_zero]; rfl) (fun K hK => ?_) AllReadyH.nil
    go_simp
    refine (ref6_Sign _ _ _ _ _ _ hp3 _).mono ?_
    rintro e w2 ⟨rfl, B⟩
    have RB2 := Lib.hid (RB1.out.trans (B.mono RB1.out.size))
    clear B 
    go_wp2_with fail
    refine hK.out _ _ (QF1.out _ RB2.out) (fun hHeld2 => ?_)
    clear hK K hHeld; have hHeld := hHeld2; clear hHeld2
    try simp only [Act.put, List.setIfInBounds_toArray, List.set_cons_zero, List.set_cons_succ]
    refine wpAnyH_take (i := 10) (v := ?_) (by simp only [List.getElem?_toArray, List.getElem?_cons_succ, List.getElem?_cons_zero]; rfl) (by kernel_rfl) (by kernel_rfl) (by kernel_rfl) (by intro _ _ _ h; exact h) (Or.inl ⟨by rfl, ?_⟩) hHeld ?_
    rotate_left 1
    · intro w hSw; (try dsimp only at hSw); go_simp; try with_reducible rfl
    try simp only [Act.put, List.setIfInBounds_toArray, List.set_cons_zero, List.set_cons_succ]
    refine wpAnyH_done (by kernel_rfl) ?_ _
    have FY_2 := Lib.hid (FY_1.out.below RB2.out (Nat.le_refl _))
    have HB2 := Lib.hid (HB1.out.trans (RB2.out.mono HB1.out.size))
    clear hHeld HB1 FY_1
    go_wp2_with fail
    go_ret
    exact ⟨rfl, HB2.out⟩
  · rw [ori_out hin]
    have hm := Nat.le_trans hp.cap hp.max
    have HB0 := Lib.hid (Below.refl w.heap.size w)
    go_enter Tryd.func43, Tryd.ntmps43
    go_wp2_with fail
    refine (ref14_Is _ n c hm _).mono ?_
    rintro e w1 ⟨rfl, B⟩
    have HB1 := Lib.hid (HB0.out.trans (B.mono HB0.out.size))
    clear B  HB0
    rw [show decide (inP n) = false from by simpa using hin]
    go_wp2_with fail
    go_ret
    exact ⟨rfl, HB1.out⟩
end Go.Proofs.YtoikcgmdlccdbaaDoor
