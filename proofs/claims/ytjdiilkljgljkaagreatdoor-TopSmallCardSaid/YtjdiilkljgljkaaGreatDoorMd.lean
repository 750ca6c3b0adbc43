/- Contracts of the reference's signed sums (geofenceref03.Neg, Add, Sub). Contracts of package orient: the determinant of three points, its sign, two masks. Plain geometry over Int: the lifted determinant of four points; its bounds, its expansion. No program in sight. Contracts of package circle: the lifted determinant, its sign, the side. Polygons over the integers: validity and positions, in plain Lean. No program's run. -/
import Derived.Test.YtjdiilkljgljkaaGreatDoorMc
import Derived.Deep.RegionHeld3
import Derived.Test.YtjdiilkljgljkaaGreatDoorMa
import Derived.Deep.DeepCutAuto
import Derived.Test.YtjdiilkljgljkaaGreatDoorMb
namespace Go.Proofs.YtjdiilkljgljkaaGreatDoor
set_option linter.unusedVariables false
set_option linter.unusedSimpArgs false
open Go.RowKit

/-- the value of a number: its sign and its digits -/
def numV (x : Int) (A : Option Addr) (n c : Nat) : Value := .agg #[.int .i64 (sg x), .slice A n c]
theorem sign_range (x : Int) : -1 ≤ (sg x) ∧ (sg x) ≤ 1 := by
  unfold sg
  rcases (by omega : x < 0 ∨ x = 0 ∨ 0 < x) with h | h | h
  · rw [Int.sign_eq_neg_one_of_neg h]; omega
  · subst h; simp
  · rw [Int.sign_eq_one_of_pos h]; omega
theorem nm_neg {w : World} {A : Option Addr} {n c : Nat} {x : Int} (h : Nm w A n c x) : Nm w A n c (-x) := by unfold Nm at *; rw [Int.natAbs_neg]; exact h

theorem ref3_Neg (A : Option Addr) (n c : Nat) (x : Int) (w : World) (ha : Nm w A n c x) :
    Calls Tryz.prog 63 #[.agg #[.int .i64 (sg x), .slice A n c]] w fun e w' => e = .returned (.agg #[.int .i64 (sg (-x)), .slice A n c]) ∧ Below w.heap.size w w' := by
  have hr := sign_range x
  have e1 : (sg (-x)) = -(sg x) := by unfold sg; rw [Int.sign_neg]
  rw [e1]
  clear ha e1
  go_enter Tryz.func63, Tryz.ntmps63
  go_wp2_with fail
  refine bodyPost_ret (v := .agg #[.int .i64 (-(sg x)), .slice A n c]) (by simp [results, Tryz.results63, go_sem]) rfl ⟨rfl, ?_⟩
  exact ((Below.refl w.heap.size w).alloc (Nat.le_refl _) _).alloc (by simp) _

/-- two numbers in boxes of their own, and a box for the result -/
structure Box (w : World) (B : Nat) (a0 a1 b0 b1 : Value) : Prop where
  c0 : w.cell? ⟨B, 0, none⟩ = some a0
  c1 : w.cell? ⟨B, 1, none⟩ = some a1
  d0 : w.cell? ⟨B + 1, 0, none⟩ = some b0
  d1 : w.cell? ⟨B + 1, 1, none⟩ = some b1
  r : w.heap[B + 1 + 1]? = some (.cells #[.int .i64 0, .slice none 0 0] 41 (0, 0))
theorem Box.lt {w : World} {B : Nat} {a0 a1 b0 b1 : Value} (h : Box w B a0 a1 b0 b1) : B + 2 < w.heap.size := by
  rcases Nat.lt_or_ge (B + 2) w.heap.size with h1 | h1
  · exact h1
  · have := h.r; rw [Array.getElem?_eq_none (show _ ≤ B + 1 + 1 from h1)] at this; cases this
theorem Box.below {w w' : World} {B C : Nat} {a0 a1 b0 b1 : Value} (h : Box w B a0 a1 b0 b1) (hb : Below C w w') (hC : w.heap.size ≤ C) : Box w' B a0 a1 b0 b1 := by
  have hlt := h.lt
  exact ⟨(hb.cell (p := ⟨B, 0, none⟩) (by show B < C; omega)).trans h.c0, (hb.cell (p := ⟨B, 1, none⟩) (by show B < C; omega)).trans h.c1, (hb.cell (p := ⟨B + 1, 0, none⟩) (by show B + 1 < C; omega)).trans h.d0, (hb.cell (p := ⟨B + 1, 1, none⟩) (by show B + 1 < C; omega)).trans h.d1, (hb.block (B + 2) (by omega)).trans h.r⟩
theorem Box.drew {w : World} {B : Nat} {a0 a1 b0 b1 : Value} (h : Box w B a0 a1 b0 b1) : Box w.drew B a0 a1 b0 b1 := ⟨h.c0, h.c1, h.d0, h.d1, h.r⟩
theorem Box.cell {w : World} {B : Nat} {a0 a1 b0 b1 : Value} (h : Box w B a0 a1 b0 b1) (i : Nat) : w.cell? ⟨B + 1 + 1, i, none⟩ = (#[Value.int .i64 0, Value.slice none 0 0])[i]? := by simp [World.cell?, h.r]
theorem Box.free {w : World} {B : Nat} {a0 a1 b0 b1 : Value} (h : Box w B a0 a1 b0 b1) (i : Nat) : w.frozen? ⟨B + 1 + 1, i, none⟩ = false := by simp [World.frozen?, h.r]
theorem Box.new (w : World) (a0 a1 b0 b1 : Value) : Box (((w.alloc (.cells #[a0, a1] 41)).alloc (.cells #[b0, b1] 41)).alloc (.cells #[.int .i64 0, .slice none 0 0] 41)) w.heap.size a0 a1 b0 b1 := by
  refine ⟨by simp [go_sem], by simp [go_sem], by simp [go_sem], by simp [go_sem], ?_⟩
  have h := heap_alloc_new ((w.alloc (.cells #[a0, a1] 41)).alloc (.cells #[b0, b1] 41)) (.cells #[.int .i64 0, .slice none 0 0] 41)
  simpa using h
theorem set2_cell {w : World} {B b o : Nat} {u v0 v1 : Value} (h : w.cell? ⟨b, o, none⟩ = some u) (hb : b ≠ B) : ((w.setCell ⟨B, 0, none⟩ v0).setCell ⟨B, 1, none⟩ v1).cell? ⟨b, o, none⟩ = some u := by
  rw [World.cell?_setCell_other _ _ _ _ (by intro e; injection e with e1; exact hb e1.symm), World.cell?_setCell_other _ _ _ _ (by intro e; injection e with e1; exact hb e1.symm)]; exact h
theorem nm_draw {w : World} {A : Option Addr} {n c : Nat} {x : Int} (h : Nm w A n c x) : Nm w.drew A n c x := ⟨h.1.drew, h.2.1, h.2.2⟩
theorem Box.set2 {w : World} {B n c : Nat} {a0 a1 b0 b1 v0 v1 : Value} {A : Option Addr} {x : Int} (h : Box w B a0 a1 b0 b1) (hn : Nm w A n c x) : Nm ((w.setCell ⟨B + 1 + 1, 0, none⟩ v0).setCell ⟨B + 1 + 1, 1, none⟩ v1) A n c x :=
  (hn.set_ h.r (by decide)).set_ (heap_setCell_same w (B + 1 + 1) 0 _ _ v0 h.r) (by decide)

theorem add_same {x y : Int} (h0 : x ≠ 0) (h1 : y ≠ 0) (h : (sg x) = (sg y)) : (((x + y).natAbs : Nat) : Int) = (x.natAbs : Int) + y.natAbs ∧ (sg x) = (sg (x + y)) := by
  unfold sg at *
  rcases (by omega : 0 < x ∨ x < 0) with hx | hx
  · rw [Int.sign_eq_one_of_pos hx] at h
    have hy : 0 < y := Int.sign_eq_one_iff_pos.1 h.symm
    rw [Int.sign_eq_one_of_pos hx, Int.sign_eq_one_of_pos (by omega)]; omega
  · rw [Int.sign_eq_neg_one_of_neg hx] at h
    have hy : y < 0 := Int.sign_eq_neg_one_iff_neg.1 h.symm
    rw [Int.sign_eq_neg_one_of_neg hx, Int.sign_eq_neg_one_of_neg (by omega)]; omega

theorem add_diff {x y : Int} (h0 : x ≠ 0) (h1 : y ≠ 0) (h : (sg x) ≠ (sg y)) (hle : (y.natAbs : Int) ≤ x.natAbs) : (((x + y).natAbs : Nat) : Int) = (x.natAbs : Int) - y.natAbs ∧ (x + y ≠ 0 → (sg x) = (sg (x + y))) := by
  unfold sg at *
  rcases (by omega : 0 < x ∨ x < 0) with hx | hx
  · have hy : y < 0 := by
      rcases (by omega : 0 < y ∨ y < 0) with hy | hy
      · rw [Int.sign_eq_one_of_pos hx, Int.sign_eq_one_of_pos hy] at h; exact absurd rfl h
      · exact hy
    refine ⟨by omega, fun hne => ?_⟩
    rw [Int.sign_eq_one_of_pos hx, Int.sign_eq_one_of_pos (by omega)]
  · have hy : 0 < y := by
      rcases (by omega : 0 < y ∨ y < 0) with hy | hy
      · exact hy
      · rw [Int.sign_eq_neg_one_of_neg hx, Int.sign_eq_neg_one_of_neg hy] at h; exact absurd rfl h
    refine ⟨by omega, fun hne => ?_⟩
    rw [Int.sign_eq_neg_one_of_neg hx, Int.sign_eq_neg_one_of_neg (by omega)]
theorem cmp_ge {p q : Int} (h : q ≤ p) : 0 ≤ cmpI p q := by
  rcases (by omega : q = p ∨ q < p) with h1 | h1
  · subst h1; simp [cmpI]
  · rw [cmp_gt h1]; omega

set_option maxHeartbeats 2000000 in
theorem ref3_Add (A A' : Option Addr) (n c m c' : Nat) (x y : Int) (w : World) (ha : Nm w A n c x) (hb : Nm w A' m c' y) (hn : n ≤ 99999) (hm : m ≤ 99999) :
    Calls Tryz.prog 34 #[.agg #[.int .i64 (sg x), .slice A n c], .agg #[.int .i64 (sg y), .slice A' m c']] w fun e w' => (∃ A2 k c2, e = .returned (.agg #[.int .i64 (sg (x + y)), .slice A2 k c2]) ∧ k ≤ max n m + 1 ∧ Nm w' A2 k c2 (x + y)) ∧ Below w.heap.size w w' := by
  have hrx := sign_range x; have hry := sign_range y
  have HA := Lib.hid ha; have HB := Lib.hid hb
  have hb3 : ∀ (o1 o2 o3 : Obj), Below w.heap.size w (((w.alloc o1).alloc o2).alloc o3) := fun o1 o2 o3 => (((Below.refl w.heap.size w).alloc (Nat.le_refl _) _).alloc (by simp) _).alloc (by simp; omega) _
  have HB3 := Lib.hid hb3
  clear ha hb hb3
  by_cases h0 : x = 0
  · subst h0
    have hz : (sg 0 == 0) = true := rfl
    go_enter Tryz.func34, Tryz.ntmps34
    go_wp2_with fail
    refine bodyPost_ret (v := .agg #[.int .i64 (sg y), .slice A' m c']) (by simp [results, Tryz.results34, go_sem]) rfl ⟨⟨A', m, c', by rw [Int.zero_add], by omega, ?_⟩, HB3.out _ _ _⟩
    rw [Int.zero_add]; exact HB.out.below (HB3.out _ _ _) (Nat.le_refl _)
  · have hs0 : ((sg x) == 0) = false := by simp [sg]; exact h0
    by_cases h1 : y = 0
    · subst h1
      have hz : (sg 0 == 0) = true := rfl
      go_enter Tryz.func34, Tryz.ntmps34
      go_wp2_with fail
      refine bodyPost_ret (v := .agg #[.int .i64 (sg x), .slice A n c]) (by simp [results, Tryz.results34, go_sem]) rfl ⟨⟨A, n, c, by rw [Int.add_zero], by omega, ?_⟩, HB3.out _ _ _⟩
      rw [Int.add_zero]; exact HA.out.below (HB3.out _ _ _) (Nat.le_refl _)
    · have hs1 : ((sg y) == 0) = false := by simp [sg]; exact h1
      by_cases h2 : (sg x) = (sg y)
      · have hs2 : ((sg x) == (sg y)) = true := by simp [h2]
        have hsm := add_same h0 h1 h2
        have HSM := Lib.hid hsm
        clear h2 hsm
        go_enter Tryz.func34, Tryz.ntmps34
        go_wp2_with fail
        have bx := Box.new w (.int .i64 (sg x)) (.slice A n c) (.int .i64 (sg y)) (.slice A' m c')
        have hbw := HB3.out (.cells #[.int .i64 (sg x), .slice A n c] 41) (.cells #[.int .i64 (sg y), .slice A' m c'] 41) (.cells #[.int .i64 0, .slice none 0 0] 41)
        generalize (((w.alloc (.cells #[.int .i64 (sg x), .slice A n c] 41)).alloc (.cells #[.int .i64 (sg y), .slice A' m c'] 41)).alloc (.cells #[.int .i64 0, .slice none 0 0] 41)) = w3 at *
        have BX := Lib.hid bx; have BW := Lib.hid hbw
        have NA := Lib.hid (HA.out.below hbw (Nat.le_refl _)); have NB := Lib.hid (HB.out.below hbw (Nat.le_refl _))
        clear bx hbw hs0 hs1 hs2
        go_region_held3 (fun w' => w'.cell? ⟨w.heap.size, 0, none⟩ = some (.int .i64 (sg x)) ∧ w'.cell? ⟨w.heap.size, 1, none⟩ = some (.slice A n c) ∧ w'.cell? ⟨w.heap.size + 1, 1, none⟩ = some (.slice A' m c')) (first | exact ⟨BX.out.c0, BX.out.c1, BX.out.d1⟩ | exact ⟨B5.out.c0, B5.out.c1, B5.out.d1⟩ | exact ⟨B6.out.c0, B6.out.c1, B6.out.d1⟩ | exact ⟨set2_cell B6.out.c0 (by omega), set2_cell B6.out.c1 (by omega), set2_cell B6.out.d1 (by omega)⟩) (first | (go_at_call 60; refine (ref3_addDigits A A' n c m c' x.natAbs y.natAbs _ (by first | exact NA.out.1 | exact NA.out.1.drew) NA.out.2.1.1 (by first | exact NB.out.1 | exact NB.out.1.drew) NB.out.2.1.1 (by omega) (by omega)).mono ?_; rintro e w5 ⟨⟨A2, k, c2, rfl, hk, hs5, hf5, ht5⟩, hb5⟩; have B5 := Lib.hid (Box.below (by first | exact BX.out | exact BX.out.drew) hb5 (Nat.le_refl _)); have S5 := Lib.hid hs5; have F5 := Lib.hid hf5; have D5 := Lib.hid hb5; have T5 := Lib.hid ht5; clear hs5 hf5 hb5 ht5) | (go_at_call 58; refine (ref3_make16 (sg x) A2 k c2 _ (x + y) _ (by first | exact S5.out | exact S5.out.drew) F5.out HSM.out.1 (fun _ => HSM.out.2) (by first | exact T5.out | exact Ty.below T5.out (Below.refl _ _).drew (Nat.le_refl _))).mono ?_; rintro e w6 ⟨⟨A3, k3, c3, rfl, hk3, hnm6⟩, hb6⟩; have B6 := Lib.hid (Box.below (by first | exact B5.out | exact B5.out.drew) hb6 (Nat.le_refl _)); have N6 := Lib.hid hnm6; have D6 := Lib.hid hb6; clear hnm6 hb6; have q0 := B6.out.cell 0; have q1 := B6.out.cell 1; have q2 := B6.out.free 0; have q3 := B6.out.free 1))
        go_wp2_with fail
        have hbf := ((BW.out.drew.trans (Below.mono (B' := w.heap.size) D5.out BW.out.size)).trans (D6.out.mono (Nat.le_trans BW.out.size D5.out.size)))
        refine bodyPost_ret (v := .agg #[.int .i64 (sg (x + y)), .slice A3 k3 c3]) (by simp [results, Tryz.results34, go_sem, q0, q1]) rfl ⟨⟨A3, k3, c3, rfl, by omega, B6.out.set2 N6.out⟩, ?_⟩
        exact (hbf.setCell (p := ⟨w.heap.size + 1 + 1, 0, none⟩) (by simp; omega) _).setCell (p := ⟨w.heap.size + 1 + 1, 1, none⟩) (by simp; omega) _
      · have hs2 : ((sg x) == (sg y)) = false := by simpa using h2
        have HD := Lib.hid h2
        clear h2
        go_enter Tryz.func34, Tryz.ntmps34
        go_wp2_with fail
        have bx := Box.new w (.int .i64 (sg x)) (.slice A n c) (.int .i64 (sg y)) (.slice A' m c')
        have hbw := HB3.out (.cells #[.int .i64 (sg x), .slice A n c] 41) (.cells #[.int .i64 (sg y), .slice A' m c'] 41) (.cells #[.int .i64 0, .slice none 0 0] 41)
        generalize (((w.alloc (.cells #[.int .i64 (sg x), .slice A n c] 41)).alloc (.cells #[.int .i64 (sg y), .slice A' m c'] 41)).alloc (.cells #[.int .i64 0, .slice none 0 0] 41)) = w3 at *
        have BX := Lib.hid bx; have BW := Lib.hid hbw
        have NA := Lib.hid (HA.out.below hbw (Nat.le_refl _)); have NB := Lib.hid (HB.out.below hbw (Nat.le_refl _))
        clear bx hbw hs0 hs1
        refine (ref3_compareDigits A A' n c m c' _ _ _ NA.out.1 NA.out.2.1 NB.out.1 NB.out.2.1).mono ?_
        rintro e w4 ⟨rfl, nq, rfl⟩
        obtain ⟨w4, hw4⟩ : ∃ w4, w4 = w3.drewN nq := ⟨_, rfl⟩
        have hdr : Below w3.heap.size w3 w4 := by rw [hw4]; exact ⟨rfl, rfl, rfl, Nat.le_refl _, fun _ _ => rfl⟩
        rw [← hw4]
        clear hw4
        have BX := Lib.hid (BX.out.below hdr (Nat.le_refl _)); have NA := Lib.hid (NA.out.below hdr (Nat.le_refl _)); have NB := Lib.hid (NB.out.below hdr (Nat.le_refl _)); have BW := Lib.hid (BW.out.trans (hdr.mono BW.out.size))
        clear hdr
        by_cases hle : (y.natAbs : Int) ≤ x.natAbs
        · have hcm := cmp_ge hle
          have HSM := Lib.hid (add_diff h0 h1 HD.out hle)
          have HLE := Lib.hid hle
          clear hle
          go_wp2_with fail
          go_region_held3 (fun w' => w'.cell? ⟨w.heap.size, 0, none⟩ = some (.int .i64 (sg x)) ∧ w'.cell? ⟨w.heap.size, 1, none⟩ = some (.slice A n c) ∧ w'.cell? ⟨w.heap.size + 1, 1, none⟩ = some (.slice A' m c')) (first | exact ⟨BX.out.c0, BX.out.c1, BX.out.d1⟩ | exact ⟨B5.out.c0, B5.out.c1, B5.out.d1⟩ | exact ⟨B6.out.c0, B6.out.c1, B6.out.d1⟩ | exact ⟨set2_cell B6.out.c0 (by omega), set2_cell B6.out.c1 (by omega), set2_cell B6.out.d1 (by omega)⟩) (first | (go_at_call 62; refine (ref3_subDigits A A' n c m c' x.natAbs y.natAbs _ (by first | exact NA.out.1 | exact NA.out.1.drew) NA.out.2.1.1 (by first | exact NB.out.1 | exact NB.out.1.drew) NB.out.2.1.1 (by omega) (by omega) HLE.out).mono ?_; rintro e w5 ⟨⟨A2, c2, rfl, hs5, hf5, ht5⟩, hb5⟩; have B5 := Lib.hid (Box.below (by first | exact BX.out | exact BX.out.drew) hb5 (Nat.le_refl _)); have S5 := Lib.hid hs5; have F5 := Lib.hid hf5; have D5 := Lib.hid hb5; have T5 := Lib.hid ht5; clear hs5 hf5 hb5 ht5) | (go_at_call 58; refine (ref3_make16 (sg x) A2 n c2 _ (x + y) _ (by first | exact S5.out | exact S5.out.drew) F5.out HSM.out.1 HSM.out.2 (by first | exact T5.out | exact Ty.below T5.out (Below.refl _ _).drew (Nat.le_refl _))).mono ?_; rintro e w6 ⟨⟨A3, k3, c3, rfl, hk3, hnm6⟩, hb6⟩; have B6 := Lib.hid (Box.below (by first | exact B5.out | exact B5.out.drew) hb6 (Nat.le_refl _)); have N6 := Lib.hid hnm6; have D6 := Lib.hid hb6; clear hnm6 hb6; have q0 := B6.out.cell 0; have q1 := B6.out.cell 1; have q2 := B6.out.free 0; have q3 := B6.out.free 1))
          go_wp2_with fail
          have hbf := ((BW.out.drew.trans (Below.mono (B' := w.heap.size) D5.out BW.out.size)).trans (D6.out.mono (Nat.le_trans BW.out.size D5.out.size)))
          refine bodyPost_ret (v := .agg #[.int .i64 (sg (x + y)), .slice A3 k3 c3]) (by simp [results, Tryz.results34, go_sem, q0, q1]) rfl ⟨⟨A3, k3, c3, rfl, by omega, B6.out.set2 N6.out⟩, ?_⟩
          exact (hbf.setCell (p := ⟨w.heap.size + 1 + 1, 0, none⟩) (by simp; omega) _).setCell (p := ⟨w.heap.size + 1 + 1, 1, none⟩) (by simp; omega) _
        · have hcm : cmpI x.natAbs y.natAbs < 0 := by rw [cmp_lt (by omega)]; omega
          have hle' : (x.natAbs : Int) ≤ y.natAbs := by omega
          have hsm := add_diff h1 h0 (fun e => HD.out e.symm) hle'
          rw [Int.add_comm y x] at hsm
          have HSM := Lib.hid hsm
          have HLE := Lib.hid hle'
          clear hle hle' hsm
          go_wp2_with fail
          go_region_held3 (fun w' => w'.cell? ⟨w.heap.size + 1, 0, none⟩ = some (.int .i64 (sg y)) ∧ w'.cell? ⟨w.heap.size + 1, 1, none⟩ = some (.slice A' m c') ∧ w'.cell? ⟨w.heap.size, 1, none⟩ = some (.slice A n c)) (first | exact ⟨BX.out.d0, BX.out.d1, BX.out.c1⟩ | exact ⟨B5.out.d0, B5.out.d1, B5.out.c1⟩ | exact ⟨B6.out.d0, B6.out.d1, B6.out.c1⟩ | exact ⟨set2_cell B6.out.d0 (by omega), set2_cell B6.out.d1 (by omega), set2_cell B6.out.c1 (by omega)⟩) (first | (go_at_call 62; refine (ref3_subDigits A' A m c' n c y.natAbs x.natAbs _ (by first | exact NB.out.1 | exact NB.out.1.drew) NB.out.2.1.1 (by first | exact NA.out.1 | exact NA.out.1.drew) NA.out.2.1.1 (by omega) (by omega) HLE.out).mono ?_; rintro e w5 ⟨⟨A2, c2, rfl, hs5, hf5, ht5⟩, hb5⟩; have B5 := Lib.hid (Box.below (by first | exact BX.out | exact BX.out.drew) hb5 (Nat.le_refl _)); have S5 := Lib.hid hs5; have F5 := Lib.hid hf5; have D5 := Lib.hid hb5; have T5 := Lib.hid ht5; clear hs5 hf5 hb5 ht5) | (go_at_call 58; refine (ref3_make16 (sg y) A2 m c2 _ (x + y) _ (by first | exact S5.out | exact S5.out.drew) F5.out HSM.out.1 HSM.out.2 (by first | exact T5.out | exact Ty.below T5.out (Below.refl _ _).drew (Nat.le_refl _))).mono ?_; rintro e w6 ⟨⟨A3, k3, c3, rfl, hk3, hnm6⟩, hb6⟩; have B6 := Lib.hid (Box.below (by first | exact B5.out | exact B5.out.drew) hb6 (Nat.le_refl _)); have N6 := Lib.hid hnm6; have D6 := Lib.hid hb6; clear hnm6 hb6; have q0 := B6.out.cell 0; have q1 := B6.out.cell 1; have q2 := B6.out.free 0; have q3 := B6.out.free 1))
          go_wp2_with fail
          have hbf := ((BW.out.drew.trans (Below.mono (B' := w.heap.size) D5.out BW.out.size)).trans (D6.out.mono (Nat.le_trans BW.out.size D5.out.size)))
          refine bodyPost_ret (v := .agg #[.int .i64 (sg (x + y)), .slice A3 k3 c3]) (by simp [results, Tryz.results34, go_sem, q0, q1]) rfl ⟨⟨A3, k3, c3, rfl, by omega, B6.out.set2 N6.out⟩, ?_⟩
          exact (hbf.setCell (p := ⟨w.heap.size + 1 + 1, 0, none⟩) (by simp; omega) _).setCell (p := ⟨w.heap.size + 1 + 1, 1, none⟩) (by simp; omega) _

set_option maxHeartbeats 1000000 in
theorem ref3_Sub (A A' : Option Addr) (n c m c' : Nat) (x y : Int) (w : World) (ha : Nm w A n c x) (hb : Nm w A' m c' y) (hn : n ≤ 99999) (hm : m ≤ 99999) :
    Calls Tryz.prog 35 #[.agg #[.int .i64 (sg x), .slice A n c], .agg #[.int .i64 (sg y), .slice A' m c']] w fun e w' => (∃ A2 k c2, e = .returned (.agg #[.int .i64 (sg (x - y)), .slice A2 k c2]) ∧ k ≤ max n m + 1 ∧ Nm w' A2 k c2 (x - y)) ∧ Below w.heap.size w w' := by
  have hrx := sign_range x; have hry := sign_range y
  have HA := Lib.hid ha; have HB := Lib.hid hb
  have hb3 : ∀ (o1 o2 o3 : Obj), Below w.heap.size w (((w.alloc o1).alloc o2).alloc o3) := fun o1 o2 o3 => (((Below.refl w.heap.size w).alloc (Nat.le_refl _) _).alloc (by simp) _).alloc (by simp; omega) _
  have HB3 := Lib.hid hb3
  clear ha hb hb3
  go_enter Tryz.func35, Tryz.ntmps35
  go_wp2_with fail
  have bx := Box.new w (.int .i64 (sg x)) (.slice A n c) (.int .i64 (sg y)) (.slice A' m c')
  have hbw := HB3.out (.cells #[.int .i64 (sg x), .slice A n c] 41) (.cells #[.int .i64 (sg y), .slice A' m c'] 41) (.cells #[.int .i64 0, .slice none 0 0] 41)
  generalize (((w.alloc (.cells #[.int .i64 (sg x), .slice A n c] 41)).alloc (.cells #[.int .i64 (sg y), .slice A' m c'] 41)).alloc (.cells #[.int .i64 0, .slice none 0 0] 41)) = w3 at *
  have BX := Lib.hid bx; have BW := Lib.hid hbw
  have NA := Lib.hid (HA.out.below hbw (Nat.le_refl _)); have NB := Lib.hid (HB.out.below hbw (Nat.le_refl _))
  clear bx hbw
  go_region_held3 (fun w' => w'.cell? ⟨w.heap.size, 0, none⟩ = some (.int .i64 (sg x)) ∧ w'.cell? ⟨w.heap.size, 1, none⟩ = some (.slice A n c) ∧ w'.cell? ⟨w.heap.size + 1, 0, none⟩ = some (.int .i64 (sg y)) ∧ w'.cell? ⟨w.heap.size + 1, 1, none⟩ = some (.slice A' m c')) (first | exact ⟨BX.out.c0, BX.out.c1, BX.out.d0, BX.out.d1⟩ | exact ⟨B5.out.c0, B5.out.c1, B5.out.d0, B5.out.d1⟩ | exact ⟨B6.out.c0, B6.out.c1, B6.out.d0, B6.out.d1⟩ | exact ⟨set2_cell B6.out.c0 (by omega), set2_cell B6.out.c1 (by omega), set2_cell B6.out.d0 (by omega), set2_cell B6.out.d1 (by omega)⟩) (first | (go_at_call 63; refine (ref3_Neg A' m c' y _ (by first | exact NB.out | exact nm_draw NB.out)).mono ?_; rintro e w5 ⟨rfl, hb5⟩; have B5 := Lib.hid (Box.below (by first | exact BX.out | exact BX.out.drew) hb5 (Nat.le_refl _)); have NA5 := Lib.hid (Nm.below (by first | exact NA.out | exact nm_draw NA.out) hb5 (Nat.le_refl _)); have NB5 := Lib.hid (Nm.below (nm_neg (by first | exact NB.out | exact nm_draw NB.out)) hb5 (Nat.le_refl _)); have D5 := Lib.hid hb5; clear hb5) | (go_at_call 34; refine (ref3_Add A A' n c m c' x (-y) _ (by first | exact NA5.out | exact nm_draw NA5.out) (by first | exact NB5.out | exact nm_draw NB5.out) hn hm).mono ?_; rintro e w6 ⟨⟨A3, k3, c3, rfl, hk3, hnm6⟩, hb6⟩; have B6 := Lib.hid (Box.below (by first | exact B5.out | exact B5.out.drew) hb6 (Nat.le_refl _)); have N6 := Lib.hid hnm6; have D6 := Lib.hid hb6; clear hnm6 hb6; have q0 := B6.out.cell 0; have q1 := B6.out.cell 1; have q2 := B6.out.free 0; have q3 := B6.out.free 1))
  go_wp2_with fail
  have hbf := ((BW.out.drew.trans (Below.mono (B' := w.heap.size) D5.out BW.out.size)).trans (D6.out.mono (Nat.le_trans BW.out.size D5.out.size)))
  refine bodyPost_ret (v := .agg #[.int .i64 (sg (x + -y)), .slice A3 k3 c3]) (by simp [results, Tryz.results35, go_sem, q0, q1]) rfl ⟨⟨A3, k3, c3, rfl, by omega, B6.out.set2 N6.out⟩, ?_⟩
  exact (hbf.setCell (p := ⟨w.heap.size + 1 + 1, 0, none⟩) (by simp; omega) _).setCell (p := ⟨w.heap.size + 1 + 1, 1, none⟩) (by simp; omega) _
end Go.Proofs.YtjdiilkljgljkaaGreatDoor
namespace Go.Proofs.YtjdiilkljgljkaaGreatDoor
set_option linter.unusedVariables false
set_option linter.unusedSimpArgs false
open Go.RowKit Wd

theorem xor_eq_zero {a b : Int} (ha : IsW a) (hb : IsW b) : bits .xor .u64 a b = 0 ↔ a = b := by
  unfold IsW at *
  rw [u64_xor a b ha.1 ha.2 hb.1 hb.2]
  constructor
  · intro h
    have h1 : a.toNat ^^^ b.toNat = 0 := by omega
    have h2 : a.toNat = b.toNat := by
      have := congrArg (· ^^^ b.toNat) h1
      simpa [Nat.xor_assoc] using this
    omega
  · intro h; subst h; simp
theorem TabM.alloc {w : World} (h : TabM w) (o : Obj) : TabM (w.alloc o) := h.below ((Below.refl w.heap.size w).alloc (Nat.le_refl _) o) (Nat.le_refl _)
theorem mask_Equal (a b : Int) (ha : IsW a) (hb : IsW b) (w : World) :
    Calls Tryz.prog 168 #[.int .u64 a, .int .u64 b] w fun e w' => e = .returned (.int .u64 (msk (decide (a = b)))) ∧ w = w' := by
  have h := Lib.hid (xor_w ha hb)
  have he : decide (a = b) = decide (bits .xor .u64 a b = 0) := decide_eq_decide.2 (xor_eq_zero ha hb).symm
  rw [he]
  clear he
  go_enter Tryz.func168, Tryz.ntmps168
  go_wp2_with fail
  refine (mask_Zero _ h.out _).mono ?_
  rintro e w' ⟨rfl, rfl⟩
  go_wp2_with fail
  go_ret
  exact ⟨rfl, rfl⟩
set_option maxHeartbeats 1000000 in
theorem orient_Value (ax ay bx b_ cx cy : Int) (hp : P3 ax ay bx b_ cx cy) (w : World) :
    Calls Tryz.prog 50 #[.agg #[.int .i64 ax, .int .i64 ay], .agg #[.int .i64 bx, .int .i64 b_], .agg #[.int .i64 cx, .int .i64 cy]] w fun e w' => (∃ A c, e = .returned (.slice A 3 c) ∧ Sl w' .u64 A 3 c (lmb (det ax ay bx b_ cx cy))) ∧ Below w.heap.size w w' := by
  have HB0 := Lib.hid (Below.refl w.heap.size w)
  have HF := Lib.hid hp.fit
  go_enter Tryz.func50, Tryz.ntmps50
  go_wp2_with fail
  have B : Below w.heap.size w (((w.alloc (.cells #[.int .i64 ax, .int .i64 ay] 23)).alloc (.cells #[.int .i64 bx, .int .i64 b_] 23)).alloc (.cells #[.int .i64 cx, .int .i64 cy] 23)) := (((HB0.out.alloc HB0.out.size _).alloc (HB0.out.alloc HB0.out.size _).size _).alloc ((HB0.out.alloc HB0.out.size _).alloc (HB0.out.alloc HB0.out.size _).size _).size _)
  have C : Below w.heap.size w (((w.alloc (.cells #[.int .i64 ax, .int .i64 ay] 23)).alloc (.cells #[.int .i64 bx, .int .i64 b_] 23)).alloc (.cells #[.int .i64 cx, .int .i64 cy] 23)) := ((((Below.refl w.heap.size w).alloc (Nat.le_refl _) _).alloc (by simp; try omega) _).alloc (by simp; try omega) _)
  have X0 : Bx (((w.alloc (.cells #[.int .i64 ax, .int .i64 ay] 23)).alloc (.cells #[.int .i64 bx, .int .i64 b_] 23)).alloc (.cells #[.int .i64 cx, .int .i64 cy] 23)) (w.heap.size) #[.int .i64 ax, .int .i64 ay] 23 := by simpa using (((Bx.new w #[.int .i64 ax, .int .i64 ay] 23).alloc _).alloc _)
  have X1 : Bx (((w.alloc (.cells #[.int .i64 ax, .int .i64 ay] 23)).alloc (.cells #[.int .i64 bx, .int .i64 b_] 23)).alloc (.cells #[.int .i64 cx, .int .i64 cy] 23)) (w.heap.size + 1) #[.int .i64 bx, .int .i64 b_] 23 := by simpa using ((Bx.new (w.alloc (.cells #[.int .i64 ax, .int .i64 ay] 23)) #[.int .i64 bx, .int .i64 b_] 23).alloc _)
  have X2 : Bx (((w.alloc (.cells #[.int .i64 ax, .int .i64 ay] 23)).alloc (.cells #[.int .i64 bx, .int .i64 b_] 23)).alloc (.cells #[.int .i64 cx, .int .i64 cy] 23)) (w.heap.size + 1 + 1) #[.int .i64 cx, .int .i64 cy] 23 := by simpa using (Bx.new ((w.alloc (.cells #[.int .i64 ax, .int .i64 ay] 23)).alloc (.cells #[.int .i64 bx, .int .i64 b_] 23)) #[.int .i64 cx, .int .i64 cy] 23)
  have HB1 := Lib.hid B
  have FP_1 := Lib.hid X0
  have FQ_1 := Lib.hid X1
  have FR_1 := Lib.hid X2
  clear B C X0 X1 X2 HB0 
  generalize (((w.alloc (.cells #[.int .i64 ax, .int .i64 ay] 23)).alloc (.cells #[.int .i64 bx, .int .i64 b_] 23)).alloc (.cells #[.int .i64 cx, .int .i64 cy] 23)) = w1 at *
  have RB1 := Lib.hid (below_drew0 w1)
  have QS1 := Lib.hid (show w1.cell? ⟨w.heap.size, 0, none⟩ = some (.int .i64 ax) ∧ w1.cell? ⟨w.heap.size, 1, none⟩ = some (.int .i64 ay) ∧ w1.cell? ⟨w.heap.size + 1, 0, none⟩ = some (.int .i64 bx) ∧ w1.cell? ⟨w.heap.size + 1, 1, none⟩ = some (.int .i64 b_) ∧ w1.cell? ⟨w.heap.size + 1 + 1, 0, none⟩ = some (.int .i64 cx) ∧ w1.cell? ⟨w.heap.size + 1 + 1, 1, none⟩ = some (.int .i64 cy) from ⟨FP_1.out.cell 0 (v := .int .i64 ax) rfl, FP_1.out.cell 1 (v := .int .i64 ay) rfl, FQ_1.out.cell 0 (v := .int .i64 bx) rfl, FQ_1.out.cell 1 (v := .int .i64 b_) rfl, FR_1.out.cell 0 (v := .int .i64 cx) rfl, FR_1.out.cell 1 (v := .int .i64 cy) rfl⟩)
  have QF1 := Lib.hid (show ∀ w', Below w1.heap.size w1 w' → w'.cell? ⟨w.heap.size, 0, none⟩ = some (.int .i64 ax) ∧ w'.cell? ⟨w.heap.size, 1, none⟩ = some (.int .i64 ay) ∧ w'.cell? ⟨w.heap.size + 1, 0, none⟩ = some (.int .i64 bx) ∧ w'.cell? ⟨w.heap.size + 1, 1, none⟩ = some (.int .i64 b_) ∧ w'.cell? ⟨w.heap.size + 1 + 1, 0, none⟩ = some (.int .i64 cx) ∧ w'.cell? ⟨w.heap.size + 1 + 1, 1, none⟩ = some (.int .i64 cy) from fun w' hb => ⟨(FP_1.out.below hb (Nat.le_refl _)).cell 0 (v := .int .i64 ax) rfl, (FP_1.out.below hb (Nat.le_refl _)).cell 1 (v := .int .i64 ay) rfl, (FQ_1.out.below hb (Nat.le_refl _)).cell 0 (v := .int .i64 bx) rfl, (FQ_1.out.below hb (Nat.le_refl _)).cell 1 (v := .int .i64 b_) rfl, (FR_1.out.below hb (Nat.le_refl _)).cell 0 (v := .int .i64 cx) rfl, (FR_1.out.below hb (Nat.le_refl _)).cell 1 (v := .int .i64 cy) rfl⟩)
  go_region_held3 (fun w' => w'.cell? ⟨w.heap.size, 0, none⟩ = some (.int .i64 ax) ∧ w'.cell? ⟨w.heap.size, 1, none⟩ = some (.int .i64 ay) ∧ w'.cell? ⟨w.heap.size + 1, 0, none⟩ = some (.int .i64 bx) ∧ w'.cell? ⟨w.heap.size + 1, 1, none⟩ = some (.int .i64 b_) ∧ w'.cell? ⟨w.heap.size + 1 + 1, 0, none⟩ = some (.int .i64 cx) ∧ w'.cell? ⟨w.heap.size + 1 + 1, 1, none⟩ = some (.int .i64 cy)) (first | with_reducible exact QF1.out _ RB5.out | with_reducible exact QF1.out _ RB4.out | with_reducible exact QF1.out _ RB3.out | with_reducible exact QF1.out _ RB2.out | with_reducible exact QS1.out | with_reducible exact QF1.out _ RB1.out) (first
      | (go_at_call 74; have := RB4; clear this; refine (limb_Extend U3 4 u3 (det ax ay bx b_ cx cy) 3 3 rfl _ RX3_4.out (fit_mono HF.out (by omega)) rfl rfl).mono ?_; rintro e w5 ⟨U4, u4, rfl, S4, B⟩; have RB5 := Lib.hid (RB4.out.trans (B.mono RB4.out.size)); have RX1_5 := Lib.hid (RX1_4.out.below B (Nat.le_refl _)); have RY1_5 := Lib.hid (RY1_4.out.below B (Nat.le_refl _)); have RX2_5 := Lib.hid (RX2_4.out.below B (Nat.le_refl _)); have RY2_5 := Lib.hid (RY2_4.out.below B (Nat.le_refl _)); have RX3_5 := Lib.hid (RX3_4.out.below B (Nat.le_refl _)); have RX4_5 := Lib.hid S4; clear B S4)
      | (go_at_call 75; have := RB3; clear this; refine (diff_Cross U1 V1 U2 V2 u1 v1 u2 v2 (bx - ax) (b_ - ay) (cx - ax) (cy - ay) _ RX1_3.out RY1_3.out RX2_3.out RY2_3.out (fit_sub hp.c hp.a) (fit_sub hp.d hp.b) (fit_sub hp.e hp.a) (fit_sub hp.f hp.b)).mono ?_; rintro e w4 ⟨⟨U3, u3, rfl, S3⟩, B⟩; have RB4 := Lib.hid (RB3.out.trans (B.mono RB3.out.size)); have RX1_4 := Lib.hid (RX1_3.out.below B (Nat.le_refl _)); have RY1_4 := Lib.hid (RY1_3.out.below B (Nat.le_refl _)); have RX2_4 := Lib.hid (RX2_3.out.below B (Nat.le_refl _)); have RY2_4 := Lib.hid (RY2_3.out.below B (Nat.le_refl _)); have RX3_4 := Lib.hid (show Sl _ .u64 U3 4 u3 (lmb (det ax ay bx b_ cx cy)) from S3); clear B S3)
      | (go_at_call 76; have := RB2; clear this; refine (diff_Between ax ay cx cy hp.a hp.b hp.e hp.f _).mono ?_; rintro e w3 ⟨⟨U2, u2, V2, v2, rfl, S2, T2⟩, B⟩; have RB3 := Lib.hid (RB2.out.trans (B.mono RB2.out.size)); have RX1_3 := Lib.hid (RX1_2.out.below B (Nat.le_refl _)); have RY1_3 := Lib.hid (RY1_2.out.below B (Nat.le_refl _)); have RX2_3 := Lib.hid S2; have RY2_3 := Lib.hid T2; clear B S2 T2)
      | (go_at_call 76; have := RB1; clear this; refine (diff_Between ax ay bx b_ hp.a hp.b hp.c hp.d _).mono ?_; rintro e w2 ⟨⟨U1, u1, V1, v1, rfl, S1, T1⟩, B⟩; have RB2 := Lib.hid (RB1.out.trans (B.mono RB1.out.size)); have RX1_2 := Lib.hid S1; have RY1_2 := Lib.hid T1; clear B S1 T1))
  have FP_5 := Lib.hid (FP_1.out.below RB5.out (Nat.le_refl _))
  have FQ_5 := Lib.hid (FQ_1.out.below RB5.out (Nat.le_refl _))
  have FR_5 := Lib.hid (FR_1.out.below RB5.out (Nat.le_refl _))
  have HB5 := Lib.hid (HB1.out.trans (RB5.out.mono HB1.out.size))
  clear HB1 FP_1 FQ_1 FR_1
  go_wp2_with fail
  go_ret
  exact ⟨⟨_, _, rfl, RX4_5.out⟩, HB5.out⟩

set_option maxHeartbeats 1000000 in
theorem orient_Sign (ax ay bx b_ cx cy : Int) (hp : P3 ax ay bx b_ cx cy) (w : World) (hT : TabM w) :
    Calls Tryz.prog 28 #[.agg #[.int .i64 ax, .int .i64 ay], .agg #[.int .i64 bx, .int .i64 b_], .agg #[.int .i64 cx, .int .i64 cy]] w fun e w' => e = .returned (.int .i64 (sg (det ax ay bx b_ cx cy))) ∧ Below w.heap.size w w' := by
  have HB0 := Lib.hid (Below.refl w.heap.size w)
  have FT := Lib.hid hT
  clear hT
  have HF := Lib.hid hp.fit
  go_enter Tryz.func28, Tryz.ntmps28
  go_wp2_with fail
  refine (orient_Value _ _ _ _ _ _ hp _).mono ?_
  rintro e w1 ⟨⟨U1, u1, rfl, S1⟩, B⟩
  have HB1 := Lib.hid ((((HB0.out.alloc HB0.out.size _).alloc (HB0.out.alloc HB0.out.size _).size _).alloc ((HB0.out.alloc HB0.out.size _).alloc (HB0.out.alloc HB0.out.size _).size _).size _).trans (B.mono (((HB0.out.alloc HB0.out.size _).alloc (HB0.out.alloc HB0.out.size _).size _).alloc ((HB0.out.alloc HB0.out.size _).alloc (HB0.out.alloc HB0.out.size _).size _).size _).size))
  have FT_1 := Lib.hid ((((FT.out.alloc _).alloc _).alloc _).below B (Nat.le_refl _))
  have FX_1 := Lib.hid S1
  clear B S1 HB0 FT
  go_wp2_with fail
  refine (limb_Sign _ _ _ _ _ FX_1.out HF.out rfl FT_1.out).mono ?_
  rintro e w2 ⟨rfl, B⟩
  have HB2 := Lib.hid (HB1.out.trans (B.mono HB1.out.size))
  have FT_2 := Lib.hid (FT_1.out.below B (Nat.le_refl _))
  have FX_2 := Lib.hid (FX_1.out.below B (Nat.le_refl _))
  clear B  HB1 FT_1 FX_1
  go_wp2_with fail
  go_ret
  exact ⟨rfl, HB2.out⟩

/-- a sign as a word -/
theorem sgw (x : Int) : IsW (IntKind.u64.wrap (sg x)) ∧ (IntKind.u64.wrap (sg x) = 1 ↔ 0 < x) ∧ (IntKind.u64.wrap (sg x) = 0 ↔ x = 0) ∧ (0 ≤ sg x → IntKind.u64.wrap (sg x) = sg x) := by
  rw [wrapU]
  refine ⟨isW_lo _, ?_⟩
  unfold sg lo
  rcases (by omega : x < 0 ∨ x = 0 ∨ 0 < x) with h | h | h
  · rw [Int.sign_eq_neg_one_of_neg h]; omega
  · subst h; simp
  · rw [Int.sign_eq_one_of_pos h]; omega
end Go.Proofs.YtjdiilkljgljkaaGreatDoor
namespace Go.Proofs.YtjdiilkljgljkaaGreatDoor
set_option linter.unusedVariables false
namespace Wd
/-- the cross product of the vectors from d to b and from d to c -/
def mnr (bx b_ cx cy dx dy : Int) : Int := (bx - dx) * (cy - dy) - (b_ - dy) * (cx - dx)
def nrm (ax ay dx dy : Int) : Int := (ax - dx) * (ax - dx) + (ay - dy) * (ay - dy)
/-- the lifted determinant of a, b, c, d -/
def circ (ax ay bx b_ cx cy dx dy : Int) : Int :=
  nrm ax ay dx dy * mnr bx b_ cx cy dx dy + nrm bx b_ dx dy * mnr cx cy ax ay dx dy + nrm cx cy dx dy * mnr ax ay bx b_ dx dy
theorem circ_ref (ax ay bx b_ cx cy dx dy : Int) :
    (ax * ax + ay * ay) * det bx b_ cx cy dx dy - (bx * bx + b_ * b_) * det ax ay cx cy dx dy + ((cx * cx + cy * cy) * det ax ay bx b_ dx dy - (dx * dx + dy * dy) * det ax ay bx b_ cx cy) = circ ax ay bx b_ cx cy dx dy := by
  unfold circ nrm mnr det; grind
theorem mnr_bd {bx b_ cx cy dx dy : Int} (h1 : IsI bx) (h2 : IsI b_) (h3 : IsI cx) (h4 : IsI cy) (h5 : IsI dx) (h6 : IsI dy) :
    -680564733841876926852962238568698216450 ≤ mnr bx b_ cx cy dx dy ∧ mnr bx b_ cx cy dx dy ≤ 680564733841876926852962238568698216450 := by
  have e1 := isD_mul (isD_sub h1 h5) (isD_sub h4 h6)
  have e2 := isD_mul (isD_sub h2 h6) (isD_sub h3 h5)
  unfold mnr
  omega
theorem nrm_bd {ax ay dx dy : Int} (h1 : IsI ax) (h2 : IsI ay) (h5 : IsI dx) (h6 : IsI dy) : 0 ≤ nrm ax ay dx dy ∧ nrm ax ay dx dy ≤ 680564733841876926852962238568698216450 := norm_bd (isD_sub h1 h5) (isD_sub h2 h6)
end Wd
/-- the four coordinate pairs are signed words -/
structure P4 (ax ay bx b_ cx cy dx dy : Int) : Prop where
  a : Wd.IsI ax
  b : Wd.IsI ay
  c : Wd.IsI bx
  d : Wd.IsI b_
  e : Wd.IsI cx
  f : Wd.IsI cy
  g : Wd.IsI dx
  h : Wd.IsI dy
theorem prod_bd {x y : Int} (hx : 0 ≤ x ∧ x ≤ 680564733841876926852962238568698216450) (hy : -680564733841876926852962238568698216450 ≤ y ∧ y ≤ 680564733841876926852962238568698216450) :
    -463168356949264781694283940034751631411213077750319489567148635744460200702500 - 100000000000000000000000000000000000000000000000000000000000000000000000000000000 ≤ x * y ∧ x * y ≤ 463168356949264781694283940034751631411213077750319489567148635744460200702500 + 100000000000000000000000000000000000000000000000000000000000000000000000000000000 := by
  have h := Wd.abs_mul_le (x := x) (y := y) (a := 680564733841876926852962238568698216450) (b := 680564733841876926852962238568698216450) ⟨by omega, by omega⟩ ⟨by omega, by omega⟩
  omega
theorem P4.fit {ax ay bx b_ cx cy dx dy : Int} (h : P4 ax ay bx b_ cx cy dx dy) : Wd.Fit 5 (Wd.circ ax ay bx b_ cx cy dx dy) := by
  have e1 := prod_bd (Wd.nrm_bd h.a h.b h.g h.h) (Wd.mnr_bd h.c h.d h.e h.f h.g h.h)
  have e2 := prod_bd (Wd.nrm_bd h.c h.d h.g h.h) (Wd.mnr_bd h.e h.f h.a h.b h.g h.h)
  have e3 := prod_bd (Wd.nrm_bd h.e h.f h.g h.h) (Wd.mnr_bd h.a h.b h.c h.d h.g h.h)
  unfold Wd.Fit Wd.circ
  rw [show Wd.S 5 = 2135987035920910082395021706169552114602704522356652769947041607822219725780640550022962086936576 from rfl]
  omega
end Go.Proofs.YtjdiilkljgljkaaGreatDoor
namespace Go.Proofs.YtjdiilkljgljkaaGreatDoor
set_option linter.unusedVariables false
set_option linter.unusedSimpArgs false
open Go.RowKit Wd

theorem nrm_fit {ax ay dx dy : Int} (h1 : IsI ax) (h2 : IsI ay) (h5 : IsI dx) (h6 : IsI dy) : Fit 3 (nrm ax ay dx dy) := fit3_of (by have := nrm_bd h1 h2 h5 h6; omega)
theorem mnr_fit {bx b_ cx cy dx dy : Int} (h1 : IsI bx) (h2 : IsI b_) (h3 : IsI cx) (h4 : IsI cy) (h5 : IsI dx) (h6 : IsI dy) : Fit 3 (mnr bx b_ cx cy dx dy) := fit3_of (mnr_bd h1 h2 h3 h4 h5 h6)
theorem mul_fit6 {x y : Int} (hx : Fit 3 x) (hy : Fit 3 y) : Fit 6 (x * y) := by
  unfold Fit at *
  have h := abs_mul_le (x := 2 * x) (y := 2 * y) (a := S 3) (b := S 3) ⟨by omega, by omega⟩ ⟨by omega, by omega⟩
  have e : 2 * x * (2 * y) = 4 * (x * y) := by grind
  rw [e, ← S_add] at h
  have hS := S_pos 6
  rw [show 3 + 3 = 6 from rfl] at h
  omega
/-- three vectors lie in one box -/
def Cut3V (w : World) (x1 y1 x2 y2 x3 y3 : Int) (s9 : Value) (wx : World) : Prop := ∃ (b : Nat) (U1 : Option Addr) (u1 : Nat) (V1 : Option Addr) (v1 : Nat) (U2 : Option Addr) (u2 : Nat) (V2 : Option Addr) (v2 : Nat) (U3 : Option Addr) (u3 : Nat) (V3 : Option Addr) (v3 : Nat),
  s9 = .pointer (some ⟨b, 0, none⟩) ∧ Bx wx b #[.slice U1 2 u1, .slice V1 2 v1, .slice U2 2 u2, .slice V2 2 v2, .slice U3 2 u3, .slice V3 2 v3] 238 ∧
  Sl wx .u64 U1 2 u1 (lmb x1) ∧ Sl wx .u64 V1 2 v1 (lmb y1) ∧ Sl wx .u64 U2 2 u2 (lmb x2) ∧ Sl wx .u64 V2 2 v2 (lmb y2) ∧ Sl wx .u64 U3 2 u3 (lmb x3) ∧ Sl wx .u64 V3 2 v3 (lmb y3) ∧ Below w.heap.size w wx
set_option maxHeartbeats 8000000 in
theorem circle_Value (ax ay bx b_ cx cy dx dy : Int) (hp : P4 ax ay bx b_ cx cy dx dy) (w : World) :
    Calls Tryz.prog 159 #[.agg #[.int .i64 ax, .int .i64 ay], .agg #[.int .i64 bx, .int .i64 b_], .agg #[.int .i64 cx, .int .i64 cy], .agg #[.int .i64 dx, .int .i64 dy]] w fun e w' => (∃ A c, e = .returned (.slice A 5 c) ∧ Sl w' .u64 A 5 c (lmb (circ ax ay bx b_ cx cy dx dy))) ∧ Below w.heap.size w w' := by
  have HB0 := Lib.hid (Below.refl w.heap.size w)
  go_enter Tryz.func159, Tryz.ntmps159
  go_wp2_with fail
  have B : Below w.heap.size w ((((w.alloc (.cells #[.int .i64 ax, .int .i64 ay] 23)).alloc (.cells #[.int .i64 bx, .int .i64 b_] 23)).alloc (.cells #[.int .i64 cx, .int .i64 cy] 23)).alloc (.cells #[.int .i64 dx, .int .i64 dy] 23)) := ((((HB0.out.alloc HB0.out.size _).alloc (HB0.out.alloc HB0.out.size _).size _).alloc ((HB0.out.alloc HB0.out.size _).alloc (HB0.out.alloc HB0.out.size _).size _).size _).alloc (((HB0.out.alloc HB0.out.size _).alloc (HB0.out.alloc HB0.out.size _).size _).alloc ((HB0.out.alloc HB0.out.size _).alloc (HB0.out.alloc HB0.out.size _).size _).size _).size _)
  have C : Below w.heap.size w ((((w.alloc (.cells #[.int .i64 ax, .int .i64 ay] 23)).alloc (.cells #[.int .i64 bx, .int .i64 b_] 23)).alloc (.cells #[.int .i64 cx, .int .i64 cy] 23)).alloc (.cells #[.int .i64 dx, .int .i64 dy] 23)) := (((((Below.refl w.heap.size w).alloc (Nat.le_refl _) _).alloc (by simp; try omega) _).alloc (by simp; try omega) _).alloc (by simp; try omega) _)
  have X0 : Bx ((((w.alloc (.cells #[.int .i64 ax, .int .i64 ay] 23)).alloc (.cells #[.int .i64 bx, .int .i64 b_] 23)).alloc (.cells #[.int .i64 cx, .int .i64 cy] 23)).alloc (.cells #[.int .i64 dx, .int .i64 dy] 23)) (w.heap.size) #[.int .i64 ax, .int .i64 ay] 23 := by simpa using ((((Bx.new w #[.int .i64 ax, .int .i64 ay] 23).alloc _).alloc _).alloc _)
  have X1 : Bx ((((w.alloc (.cells #[.int .i64 ax, .int .i64 ay] 23)).alloc (.cells #[.int .i64 bx, .int .i64 b_] 23)).alloc (.cells #[.int .i64 cx, .int .i64 cy] 23)).alloc (.cells #[.int .i64 dx, .int .i64 dy] 23)) (w.heap.size + 1) #[.int .i64 bx, .int .i64 b_] 23 := by simpa using (((Bx.new (w.alloc (.cells #[.int .i64 ax, .int .i64 ay] 23)) #[.int .i64 bx, .int .i64 b_] 23).alloc _).alloc _)
  have X2 : Bx ((((w.alloc (.cells #[.int .i64 ax, .int .i64 ay] 23)).alloc (.cells #[.int .i64 bx, .int .i64 b_] 23)).alloc (.cells #[.int .i64 cx, .int .i64 cy] 23)).alloc (.cells #[.int .i64 dx, .int .i64 dy] 23)) (w.heap.size + 1 + 1) #[.int .i64 cx, .int .i64 cy] 23 := by simpa using ((Bx.new ((w.alloc (.cells #[.int .i64 ax, .int .i64 ay] 23)).alloc (.cells #[.int .i64 bx, .int .i64 b_] 23)) #[.int .i64 cx, .int .i64 cy] 23).alloc _)
  have X3 : Bx ((((w.alloc (.cells #[.int .i64 ax, .int .i64 ay] 23)).alloc (.cells #[.int .i64 bx, .int .i64 b_] 23)).alloc (.cells #[.int .i64 cx, .int .i64 cy] 23)).alloc (.cells #[.int .i64 dx, .int .i64 dy] 23)) (w.heap.size + 1 + 1 + 1) #[.int .i64 dx, .int .i64 dy] 23 := by simpa using (Bx.new (((w.alloc (.cells #[.int .i64 ax, .int .i64 ay] 23)).alloc (.cells #[.int .i64 bx, .int .i64 b_] 23)).alloc (.cells #[.int .i64 cx, .int .i64 cy] 23)) #[.int .i64 dx, .int .i64 dy] 23)
  have HB1 := Lib.hid B
  have FP_1 := Lib.hid X0
  have FQ_1 := Lib.hid X1
  have FT_1 := Lib.hid X2
  have FV_1 := Lib.hid X3
  clear B C X0 X1 X2 X3 HB0 
  generalize ((((w.alloc (.cells #[.int .i64 ax, .int .i64 ay] 23)).alloc (.cells #[.int .i64 bx, .int .i64 b_] 23)).alloc (.cells #[.int .i64 cx, .int .i64 cy] 23)).alloc (.cells #[.int .i64 dx, .int .i64 dy] 23)) = w1 at *
  go_upto_region 1 with (fail)
  have M0 := trivial
  have QF := Lib.hid (show ∀ w', Below w1.heap.size w1 w' → w'.cell? ⟨w.heap.size, 0, none⟩ = some (.int .i64 ax) ∧ w'.cell? ⟨w.heap.size, 1, none⟩ = some (.int .i64 ay) ∧ w'.cell? ⟨w.heap.size + 1, 0, none⟩ = some (.int .i64 bx) ∧ w'.cell? ⟨w.heap.size + 1, 1, none⟩ = some (.int .i64 b_) ∧ w'.cell? ⟨w.heap.size + 1 + 1, 0, none⟩ = some (.int .i64 cx) ∧ w'.cell? ⟨w.heap.size + 1 + 1, 1, none⟩ = some (.int .i64 cy) ∧ w'.cell? ⟨w.heap.size + 1 + 1 + 1, 0, none⟩ = some (.int .i64 dx) ∧ w'.cell? ⟨w.heap.size + 1 + 1 + 1, 1, none⟩ = some (.int .i64 dy) from fun w' hb => ⟨(FP_1.out.below hb (Nat.le_refl _)).cell 0 (v := .int .i64 ax) rfl, (FP_1.out.below hb (Nat.le_refl _)).cell 1 (v := .int .i64 ay) rfl, (FQ_1.out.below hb (Nat.le_refl _)).cell 0 (v := .int .i64 bx) rfl, (FQ_1.out.below hb (Nat.le_refl _)).cell 1 (v := .int .i64 b_) rfl, (FT_1.out.below hb (Nat.le_refl _)).cell 0 (v := .int .i64 cx) rfl, (FT_1.out.below hb (Nat.le_refl _)).cell 1 (v := .int .i64 cy) rfl, (FV_1.out.below hb (Nat.le_refl _)).cell 0 (v := .int .i64 dx) rfl, (FV_1.out.below hb (Nat.le_refl _)).cell 1 (v := .int .i64 dy) rfl⟩)
  go_cut [9] (fun s9 wx => Cut3V w1 (ax - dx) (ay - dy) (bx - dx) (b_ - dy) (cx - dx) (cy - dy) s9 wx)
  case first =>
    go_region_held3 (fun w' => w'.cell? ⟨w.heap.size, 0, none⟩ = some (.int .i64 ax) ∧ w'.cell? ⟨w.heap.size, 1, none⟩ = some (.int .i64 ay) ∧ w'.cell? ⟨w.heap.size + 1, 0, none⟩ = some (.int .i64 bx) ∧ w'.cell? ⟨w.heap.size + 1, 1, none⟩ = some (.int .i64 b_) ∧ w'.cell? ⟨w.heap.size + 1 + 1, 0, none⟩ = some (.int .i64 cx) ∧ w'.cell? ⟨w.heap.size + 1 + 1, 1, none⟩ = some (.int .i64 cy) ∧ w'.cell? ⟨w.heap.size + 1 + 1 + 1, 0, none⟩ = some (.int .i64 dx) ∧ w'.cell? ⟨w.heap.size + 1 + 1 + 1, 1, none⟩ = some (.int .i64 dy)) (first | (with_reducible refine QF.out _ ?_; (repeat (first | (with_reducible refine below_st ?_ ?_; (focus (first | with_reducible assumption | with_reducible exact Nat.le_refl _ | (simp; done) | omega | (simp <;> omega)))) | with_reducible refine below_tr ?_ C4.out | with_reducible refine below_tr ?_ C3.out | with_reducible refine below_tr ?_ C2.out | with_reducible refine below_al ?_ | with_reducible exact below_rf | with_reducible refine below_dr ?_)); done) | (with_reducible refine QF.out _ ?_; (repeat (first | (with_reducible refine below_st ?_ ?_; (focus (first | with_reducible assumption | with_reducible exact Nat.le_refl _ | (simp; done) | omega | (simp <;> omega)))) | with_reducible refine below_tr ?_ C3.out | with_reducible refine below_tr ?_ C2.out | with_reducible refine below_al ?_ | with_reducible exact below_rf | with_reducible refine below_dr ?_)); done) | (with_reducible refine QF.out _ ?_; (repeat (first | (with_reducible refine below_st ?_ ?_; (focus (first | with_reducible assumption | with_reducible exact Nat.le_refl _ | (simp; done) | omega | (simp <;> omega)))) | with_reducible refine below_tr ?_ C2.out | with_reducible refine below_al ?_ | with_reducible exact below_rf | with_reducible refine below_dr ?_)); done) | (with_reducible refine QF.out _ ?_; (repeat (first | (with_reducible refine below_st ?_ ?_; (focus (first | with_reducible assumption | with_reducible exact Nat.le_refl _ | (simp; done) | omega | (simp <;> omega)))) | with_reducible refine below_al ?_ | with_reducible exact below_rf | with_reducible refine below_dr ?_)); done)) (first
          | (go_at_call 76; clear M2; have M3 := trivial; refine (diff_Between dx dy cx cy hp.g hp.h hp.e hp.f _).mono ?_; rintro e w4 ⟨⟨U3, u3, V3, v3, rfl, S3, T3⟩, B⟩; have C4 := Lib.hid B; clear B; have hs4 : w1.heap.size ≤ w4.heap.size := Below.size (B := w1.heap.size) (by (repeat (first | (with_reducible refine below_st ?_ ?_; (focus (first | with_reducible assumption | with_reducible exact Nat.le_refl _ | (simp; done) | omega | (simp <;> omega)))) | with_reducible refine below_tr ?_ C4.out | with_reducible refine below_tr ?_ C3.out | with_reducible refine below_tr ?_ C2.out | with_reducible refine below_al ?_ | with_reducible exact below_rf | with_reducible refine below_dr ?_))); have GX1_ := Lib.hid (fwd_sl (w' := w4) GX1.out (by (repeat (first | with_reducible exact below_rf | with_reducible refine below_tr ?_ C4.out | with_reducible refine below_al ?_ | with_reducible refine below_dr ?_)))); clear GX1; have GX1 := Lib.hid GX1_.out; clear GX1_; have GY1_ := Lib.hid (fwd_sl (w' := w4) GY1.out (by (repeat (first | with_reducible exact below_rf | with_reducible refine below_tr ?_ C4.out | with_reducible refine below_al ?_ | with_reducible refine below_dr ?_)))); clear GY1; have GY1 := Lib.hid GY1_.out; clear GY1_; have GX2_ := Lib.hid (fwd_sl (w' := w4) GX2.out (by (repeat (first | with_reducible exact below_rf | with_reducible refine below_tr ?_ C4.out | with_reducible refine below_al ?_ | with_reducible refine below_dr ?_)))); clear GX2; have GX2 := Lib.hid GX2_.out; clear GX2_; have GY2_ := Lib.hid (fwd_sl (w' := w4) GY2.out (by (repeat (first | with_reducible exact below_rf | with_reducible refine below_tr ?_ C4.out | with_reducible refine below_al ?_ | with_reducible refine below_dr ?_)))); clear GY2; have GY2 := Lib.hid GY2_.out; clear GY2_; have GX3 := Lib.hid S3; clear S3; have GY3 := Lib.hid T3; clear T3; (try (refine have_then (T := Bx w4 (w1.heap.size) #[.slice none 0 0, .slice none 0 0, .slice none 0 0, .slice none 0 0, .slice none 0 0, .slice none 0 0] 238) ?_ (fun y4_0_0 => ?_); (focus ((repeat (first | (with_reducible refine bx_new ?_; (focus (first | with_reducible rfl | (simp; done)))) | with_reducible refine bx_tr ?_ C4.out | with_reducible refine bx_tr ?_ C3.out | with_reducible refine bx_tr ?_ C2.out | with_reducible refine bx_set2 (z0 := .slice none 0 0) (z1 := .slice none 0 0) ?_ | with_reducible refine bx_set2 (z0 := .int .i64 0) (z1 := .slice none 0 0) ?_ | with_reducible refine bx_set4 (z0 := .int .i64 0) (z1 := .slice none 0 0) (z2 := .int .i64 0) (z3 := .slice none 0 0) ?_ | (with_reducible refine bx_ot ?_ ?_; (focus (first | with_reducible assumption | with_reducible exact Nat.le_refl _ | (simp; done) | omega | (simp <;> omega)))) | with_reducible refine bx_al ?_ | with_reducible refine bx_dr ?_)); done)); have y4_0_0c0 := y4_0_0.cell 0 (v := .slice none 0 0) rfl; have y4_0_0f0 := y4_0_0.free 0; have y4_0_0c1 := y4_0_0.cell 1 (v := .slice none 0 0) rfl; have y4_0_0f1 := y4_0_0.free 1; have y4_0_0c2 := y4_0_0.cell 2 (v := .slice none 0 0) rfl; have y4_0_0f2 := y4_0_0.free 2; have y4_0_0c3 := y4_0_0.cell 3 (v := .slice none 0 0) rfl; have y4_0_0f3 := y4_0_0.free 3; have y4_0_0c4 := y4_0_0.cell 4 (v := .slice none 0 0) rfl; have y4_0_0f4 := y4_0_0.free 4; have y4_0_0c5 := y4_0_0.cell 5 (v := .slice none 0 0) rfl; have y4_0_0f5 := y4_0_0.free 5; have y4_0_0l := y4_0_0.lt; have y4_0_0n := Nat.ne_of_lt y4_0_0l; have y4_0_0m := Nat.ne_of_gt y4_0_0l; have y4_0_0h := Lib.hid y4_0_0; clear y4_0_0)); (try (refine have_then (T := Bx w4 (w2.heap.size) #[.slice none 0 0, .slice none 0 0, .slice none 0 0, .slice none 0 0, .slice none 0 0, .slice none 0 0] 238) ?_ (fun y4_1_0 => ?_); (focus ((repeat (first | (with_reducible refine bx_new ?_; (focus (first | with_reducible rfl | (simp; done)))) | with_reducible refine bx_tr ?_ C4.out | with_reducible refine bx_tr ?_ C3.out | with_reducible refine bx_tr ?_ C2.out | with_reducible refine bx_set2 (z0 := .slice none 0 0) (z1 := .slice none 0 0) ?_ | with_reducible refine bx_set2 (z0 := .int .i64 0) (z1 := .slice none 0 0) ?_ | with_reducible refine bx_set4 (z0 := .int .i64 0) (z1 := .slice none 0 0) (z2 := .int .i64 0) (z3 := .slice none 0 0) ?_ | (with_reducible refine bx_ot ?_ ?_; (focus (first | with_reducible assumption | with_reducible exact Nat.le_refl _ | (simp; done) | omega | (simp <;> omega)))) | with_reducible refine bx_al ?_ | with_reducible refine bx_dr ?_)); done)); have y4_1_0c0 := y4_1_0.cell 0 (v := .slice none 0 0) rfl; have y4_1_0f0 := y4_1_0.free 0; have y4_1_0c1 := y4_1_0.cell 1 (v := .slice none 0 0) rfl; have y4_1_0f1 := y4_1_0.free 1; have y4_1_0c2 := y4_1_0.cell 2 (v := .slice none 0 0) rfl; have y4_1_0f2 := y4_1_0.free 2; have y4_1_0c3 := y4_1_0.cell 3 (v := .slice none 0 0) rfl; have y4_1_0f3 := y4_1_0.free 3; have y4_1_0c4 := y4_1_0.cell 4 (v := .slice none 0 0) rfl; have y4_1_0f4 := y4_1_0.free 4; have y4_1_0c5 := y4_1_0.cell 5 (v := .slice none 0 0) rfl; have y4_1_0f5 := y4_1_0.free 5; have y4_1_0l := y4_1_0.lt; have y4_1_0n := Nat.ne_of_lt y4_1_0l; have y4_1_0m := Nat.ne_of_gt y4_1_0l; have y4_1_0h := Lib.hid y4_1_0; clear y4_1_0)); (try (refine have_then (T := Bx w4 (w3.heap.size) #[.slice none 0 0, .slice none 0 0, .slice none 0 0, .slice none 0 0, .slice none 0 0, .slice none 0 0] 238) ?_ (fun y4_2_0 => ?_); (focus ((repeat (first | (with_reducible refine bx_new ?_; (focus (first | with_reducible rfl | (simp; done)))) | with_reducible refine bx_tr ?_ C4.out | with_reducible refine bx_tr ?_ C3.out | with_reducible refine bx_tr ?_ C2.out | with_reducible refine bx_set2 (z0 := .slice none 0 0) (z1 := .slice none 0 0) ?_ | with_reducible refine bx_set2 (z0 := .int .i64 0) (z1 := .slice none 0 0) ?_ | with_reducible refine bx_set4 (z0 := .int .i64 0) (z1 := .slice none 0 0) (z2 := .int .i64 0) (z3 := .slice none 0 0) ?_ | (with_reducible refine bx_ot ?_ ?_; (focus (first | with_reducible assumption | with_reducible exact Nat.le_refl _ | (simp; done) | omega | (simp <;> omega)))) | with_reducible refine bx_al ?_ | with_reducible refine bx_dr ?_)); done)); have y4_2_0c0 := y4_2_0.cell 0 (v := .slice none 0 0) rfl; have y4_2_0f0 := y4_2_0.free 0; have y4_2_0c1 := y4_2_0.cell 1 (v := .slice none 0 0) rfl; have y4_2_0f1 := y4_2_0.free 1; have y4_2_0c2 := y4_2_0.cell 2 (v := .slice none 0 0) rfl; have y4_2_0f2 := y4_2_0.free 2; have y4_2_0c3 := y4_2_0.cell 3 (v := .slice none 0 0) rfl; have y4_2_0f3 := y4_2_0.free 3; have y4_2_0c4 := y4_2_0.cell 4 (v := .slice none 0 0) rfl; have y4_2_0f4 := y4_2_0.free 4; have y4_2_0c5 := y4_2_0.cell 5 (v := .slice none 0 0) rfl; have y4_2_0f5 := y4_2_0.free 5; have y4_2_0l := y4_2_0.lt; have y4_2_0n := Nat.ne_of_lt y4_2_0l; have y4_2_0m := Nat.ne_of_gt y4_2_0l; have y4_2_0h := Lib.hid y4_2_0; clear y4_2_0)))
          | (go_at_call 76; clear M1; have M2 := trivial; refine (diff_Between dx dy bx b_ hp.g hp.h hp.c hp.d _).mono ?_; rintro e w3 ⟨⟨U2, u2, V2, v2, rfl, S2, T2⟩, B⟩; have C3 := Lib.hid B; clear B; have hs3 : w1.heap.size ≤ w3.heap.size := Below.size (B := w1.heap.size) (by (repeat (first | (with_reducible refine below_st ?_ ?_; (focus (first | with_reducible assumption | with_reducible exact Nat.le_refl _ | (simp; done) | omega | (simp <;> omega)))) | with_reducible refine below_tr ?_ C3.out | with_reducible refine below_tr ?_ C2.out | with_reducible refine below_al ?_ | with_reducible exact below_rf | with_reducible refine below_dr ?_))); have GX1_ := Lib.hid (fwd_sl (w' := w3) GX1.out (by (repeat (first | with_reducible exact below_rf | with_reducible refine below_tr ?_ C3.out | with_reducible refine below_al ?_ | with_reducible refine below_dr ?_)))); clear GX1; have GX1 := Lib.hid GX1_.out; clear GX1_; have GY1_ := Lib.hid (fwd_sl (w' := w3) GY1.out (by (repeat (first | with_reducible exact below_rf | with_reducible refine below_tr ?_ C3.out | with_reducible refine below_al ?_ | with_reducible refine below_dr ?_)))); clear GY1; have GY1 := Lib.hid GY1_.out; clear GY1_; have GX2 := Lib.hid S2; clear S2; have GY2 := Lib.hid T2; clear T2; (try (refine have_then (T := Bx w3 (w1.heap.size) #[.slice none 0 0, .slice none 0 0, .slice none 0 0, .slice none 0 0, .slice none 0 0, .slice none 0 0] 238) ?_ (fun y3_0_0 => ?_); (focus ((repeat (first | (with_reducible refine bx_new ?_; (focus (first | with_reducible rfl | (simp; done)))) | with_reducible refine bx_tr ?_ C3.out | with_reducible refine bx_tr ?_ C2.out | with_reducible refine bx_set2 (z0 := .slice none 0 0) (z1 := .slice none 0 0) ?_ | with_reducible refine bx_set2 (z0 := .int .i64 0) (z1 := .slice none 0 0) ?_ | with_reducible refine bx_set4 (z0 := .int .i64 0) (z1 := .slice none 0 0) (z2 := .int .i64 0) (z3 := .slice none 0 0) ?_ | (with_reducible refine bx_ot ?_ ?_; (focus (first | with_reducible assumption | with_reducible exact Nat.le_refl _ | (simp; done) | omega | (simp <;> omega)))) | with_reducible refine bx_al ?_ | with_reducible refine bx_dr ?_)); done)); have y3_0_0c0 := y3_0_0.cell 0 (v := .slice none 0 0) rfl; have y3_0_0f0 := y3_0_0.free 0; have y3_0_0c1 := y3_0_0.cell 1 (v := .slice none 0 0) rfl; have y3_0_0f1 := y3_0_0.free 1; have y3_0_0c2 := y3_0_0.cell 2 (v := .slice none 0 0) rfl; have y3_0_0f2 := y3_0_0.free 2; have y3_0_0c3 := y3_0_0.cell 3 (v := .slice none 0 0) rfl; have y3_0_0f3 := y3_0_0.free 3; have y3_0_0c4 := y3_0_0.cell 4 (v := .slice none 0 0) rfl; have y3_0_0f4 := y3_0_0.free 4; have y3_0_0c5 := y3_0_0.cell 5 (v := .slice none 0 0) rfl; have y3_0_0f5 := y3_0_0.free 5; have y3_0_0l := y3_0_0.lt; have y3_0_0n := Nat.ne_of_lt y3_0_0l; have y3_0_0m := Nat.ne_of_gt y3_0_0l; have y3_0_0h := Lib.hid y3_0_0; clear y3_0_0)); (try (refine have_then (T := Bx w3 (w2.heap.size) #[.slice none 0 0, .slice none 0 0, .slice none 0 0, .slice none 0 0, .slice none 0 0, .slice none 0 0] 238) ?_ (fun y3_1_0 => ?_); (focus ((repeat (first | (with_reducible refine bx_new ?_; (focus (first | with_reducible rfl | (simp; done)))) | with_reducible refine bx_tr ?_ C3.out | with_reducible refine bx_tr ?_ C2.out | with_reducible refine bx_set2 (z0 := .slice none 0 0) (z1 := .slice none 0 0) ?_ | with_reducible refine bx_set2 (z0 := .int .i64 0) (z1 := .slice none 0 0) ?_ | with_reducible refine bx_set4 (z0 := .int .i64 0) (z1 := .slice none 0 0) (z2 := .int .i64 0) (z3 := .slice none 0 0) ?_ | (with_reducible refine bx_ot ?_ ?_; (focus (first | with_reducible assumption | with_reducible exact Nat.le_refl _ | (simp; done) | omega | (simp <;> omega)))) | with_reducible refine bx_al ?_ | with_reducible refine bx_dr ?_)); done)); have y3_1_0c0 := y3_1_0.cell 0 (v := .slice none 0 0) rfl; have y3_1_0f0 := y3_1_0.free 0; have y3_1_0c1 := y3_1_0.cell 1 (v := .slice none 0 0) rfl; have y3_1_0f1 := y3_1_0.free 1; have y3_1_0c2 := y3_1_0.cell 2 (v := .slice none 0 0) rfl; have y3_1_0f2 := y3_1_0.free 2; have y3_1_0c3 := y3_1_0.cell 3 (v := .slice none 0 0) rfl; have y3_1_0f3 := y3_1_0.free 3; have y3_1_0c4 := y3_1_0.cell 4 (v := .slice none 0 0) rfl; have y3_1_0f4 := y3_1_0.free 4; have y3_1_0c5 := y3_1_0.cell 5 (v := .slice none 0 0) rfl; have y3_1_0f5 := y3_1_0.free 5; have y3_1_0l := y3_1_0.lt; have y3_1_0n := Nat.ne_of_lt y3_1_0l; have y3_1_0m := Nat.ne_of_gt y3_1_0l; have y3_1_0h := Lib.hid y3_1_0; clear y3_1_0)))
          | (go_at_call 76; clear M0; have M1 := trivial; refine (diff_Between dx dy ax ay hp.g hp.h hp.a hp.b _).mono ?_; rintro e w2 ⟨⟨U1, u1, V1, v1, rfl, S1, T1⟩, B⟩; have C2 := Lib.hid B; clear B; have hs2 : w1.heap.size ≤ w2.heap.size := Below.size (B := w1.heap.size) (by (repeat (first | (with_reducible refine below_st ?_ ?_; (focus (first | with_reducible assumption | with_reducible exact Nat.le_refl _ | (simp; done) | omega | (simp <;> omega)))) | with_reducible refine below_tr ?_ C2.out | with_reducible refine below_al ?_ | with_reducible exact below_rf | with_reducible refine below_dr ?_))); have GX1 := Lib.hid S1; clear S1; have GY1 := Lib.hid T1; clear T1; (try (refine have_then (T := Bx w2 (w1.heap.size) #[.slice none 0 0, .slice none 0 0, .slice none 0 0, .slice none 0 0, .slice none 0 0, .slice none 0 0] 238) ?_ (fun y2_0_0 => ?_); (focus ((repeat (first | (with_reducible refine bx_new ?_; (focus (first | with_reducible rfl | (simp; done)))) | with_reducible refine bx_tr ?_ C2.out | with_reducible refine bx_set2 (z0 := .slice none 0 0) (z1 := .slice none 0 0) ?_ | with_reducible refine bx_set2 (z0 := .int .i64 0) (z1 := .slice none 0 0) ?_ | with_reducible refine bx_set4 (z0 := .int .i64 0) (z1 := .slice none 0 0) (z2 := .int .i64 0) (z3 := .slice none 0 0) ?_ | (with_reducible refine bx_ot ?_ ?_; (focus (first | with_reducible assumption | with_reducible exact Nat.le_refl _ | (simp; done) | omega | (simp <;> omega)))) | with_reducible refine bx_al ?_ | with_reducible refine bx_dr ?_)); done)); have y2_0_0c0 := y2_0_0.cell 0 (v := .slice none 0 0) rfl; have y2_0_0f0 := y2_0_0.free 0; have y2_0_0c1 := y2_0_0.cell 1 (v := .slice none 0 0) rfl; have y2_0_0f1 := y2_0_0.free 1; have y2_0_0c2 := y2_0_0.cell 2 (v := .slice none 0 0) rfl; have y2_0_0f2 := y2_0_0.free 2; have y2_0_0c3 := y2_0_0.cell 3 (v := .slice none 0 0) rfl; have y2_0_0f3 := y2_0_0.free 3; have y2_0_0c4 := y2_0_0.cell 4 (v := .slice none 0 0) rfl; have y2_0_0f4 := y2_0_0.free 4; have y2_0_0c5 := y2_0_0.cell 5 (v := .slice none 0 0) rfl; have y2_0_0f5 := y2_0_0.free 5; have y2_0_0l := y2_0_0.lt; have y2_0_0n := Nat.ne_of_lt y2_0_0l; have y2_0_0m := Nat.ne_of_gt y2_0_0l; have y2_0_0h := Lib.hid y2_0_0; clear y2_0_0))))
    all_goals (go_wp2_with fail; go_meet; exact ⟨_, U1, u1, V1, v1, U2, u2, V2, v2, U3, u3, V3, v3, rfl, by (repeat (first | with_reducible exact y4_0_0h.out | with_reducible exact y4_1_0h.out | with_reducible exact y4_2_0h.out | (with_reducible refine bx_set6 (z := .slice none 0 0) ?_) | (with_reducible refine bx_new ?_; (focus (first | with_reducible rfl | (simp; done)))) | with_reducible refine bx_al ?_ | with_reducible refine bx_dr ?_)), by (repeat (first | with_reducible exact GX1.out | (with_reducible refine sl_set6 (t := 238) ?_ ?_; (focus ((repeat (first | with_reducible exact y4_0_0h.out | with_reducible exact y4_1_0h.out | with_reducible exact y4_2_0h.out | (with_reducible refine bx_set6 (z := .slice none 0 0) ?_) | (with_reducible refine bx_new ?_; (focus (first | with_reducible rfl | (simp; done)))) | with_reducible refine bx_al ?_ | with_reducible refine bx_dr ?_)); done))) | with_reducible refine sl_al ?_ | with_reducible refine sl_dr ?_)), by (repeat (first | with_reducible exact GY1.out | (with_reducible refine sl_set6 (t := 238) ?_ ?_; (focus ((repeat (first | with_reducible exact y4_0_0h.out | with_reducible exact y4_1_0h.out | with_reducible exact y4_2_0h.out | (with_reducible refine bx_set6 (z := .slice none 0 0) ?_) | (with_reducible refine bx_new ?_; (focus (first | with_reducible rfl | (simp; done)))) | with_reducible refine bx_al ?_ | with_reducible refine bx_dr ?_)); done))) | with_reducible refine sl_al ?_ | with_reducible refine sl_dr ?_)), by (repeat (first | with_reducible exact GX2.out | (with_reducible refine sl_set6 (t := 238) ?_ ?_; (focus ((repeat (first | with_reducible exact y4_0_0h.out | with_reducible exact y4_1_0h.out | with_reducible exact y4_2_0h.out | (with_reducible refine bx_set6 (z := .slice none 0 0) ?_) | (with_reducible refine bx_new ?_; (focus (first | with_reducible rfl | (simp; done)))) | with_reducible refine bx_al ?_ | with_reducible refine bx_dr ?_)); done))) | with_reducible refine sl_al ?_ | with_reducible refine sl_dr ?_)), by (repeat (first | with_reducible exact GY2.out | (with_reducible refine sl_set6 (t := 238) ?_ ?_; (focus ((repeat (first | with_reducible exact y4_0_0h.out | with_reducible exact y4_1_0h.out | with_reducible exact y4_2_0h.out | (with_reducible refine bx_set6 (z := .slice none 0 0) ?_) | (with_reducible refine bx_new ?_; (focus (first | with_reducible rfl | (simp; done)))) | with_reducible refine bx_al ?_ | with_reducible refine bx_dr ?_)); done))) | with_reducible refine sl_al ?_ | with_reducible refine sl_dr ?_)), by (repeat (first | with_reducible exact GX3.out | (with_reducible refine sl_set6 (t := 238) ?_ ?_; (focus ((repeat (first | with_reducible exact y4_0_0h.out | with_reducible exact y4_1_0h.out | with_reducible exact y4_2_0h.out | (with_reducible refine bx_set6 (z := .slice none 0 0) ?_) | (with_reducible refine bx_new ?_; (focus (first | with_reducible rfl | (simp; done)))) | with_reducible refine bx_al ?_ | with_reducible refine bx_dr ?_)); done))) | with_reducible refine sl_al ?_ | with_reducible refine sl_dr ?_)), by (repeat (first | with_reducible exact GY3.out | (with_reducible refine sl_set6 (t := 238) ?_ ?_; (focus ((repeat (first | with_reducible exact y4_0_0h.out | with_reducible exact y4_1_0h.out | with_reducible exact y4_2_0h.out | (with_reducible refine bx_set6 (z := .slice none 0 0) ?_) | (with_reducible refine bx_new ?_; (focus (first | with_reducible rfl | (simp; done)))) | with_reducible refine bx_al ?_ | with_reducible refine bx_dr ?_)); done))) | with_reducible refine sl_al ?_ | with_reducible refine sl_dr ?_)), by (repeat (first | (with_reducible refine below_st ?_ ?_; (focus (first | with_reducible assumption | with_reducible exact Nat.le_refl _ | (simp; done) | omega | (simp <;> omega)))) | with_reducible refine below_tr ?_ C4.out | with_reducible refine below_tr ?_ C3.out | with_reducible refine below_tr ?_ C2.out | with_reducible refine below_al ?_ | with_reducible exact below_rf | with_reducible refine below_dr ?_))⟩)
  case rest =>
    clear QF M0
    obtain ⟨b9, U1, u1, V1, v1, U2, u2, V2, v2, U3, u3, V3, v3, rfl, H, S1, T1, S2, T2, S3, T3, HCB⟩ := hcut
    have FP_5 := Lib.hid (FP_1.out.below HCB (Nat.le_refl _)); clear FP_1
    have FQ_5 := Lib.hid (FQ_1.out.below HCB (Nat.le_refl _)); clear FQ_1
    have FT_5 := Lib.hid (FT_1.out.below HCB (Nat.le_refl _)); clear FT_1
    have FV_5 := Lib.hid (FV_1.out.below HCB (Nat.le_refl _)); clear FV_1
    have HB5 := Lib.hid (HB1.out.trans (HCB.mono HB1.out.size)); clear HCB HB1
    have FW := Lib.hid H; have FX1 := Lib.hid S1; have FY1 := Lib.hid T1; have FX2 := Lib.hid S2; have FY2 := Lib.hid T2; have FX3 := Lib.hid S3; have FY3 := Lib.hid T3; clear H S1 T1 S2 T2 S3 T3
    go_wp2_with fail
    refine (limb_From 0 5 5 rfl (by unfold IsI; omega) rfl _).mono ?_
    rintro e w6 ⟨Z0, z0, rfl, SZ, B⟩
    have HB6 := Lib.hid (HB5.out.trans (B.mono HB5.out.size))
    have FW_6 := Lib.hid (FW.out.below B (Nat.le_refl _))
    have FX1_6 := Lib.hid (FX1.out.below B (Nat.le_refl _))
    have FY1_6 := Lib.hid (FY1.out.below B (Nat.le_refl _))
    have FX2_6 := Lib.hid (FX2.out.below B (Nat.le_refl _))
    have FY2_6 := Lib.hid (FY2.out.below B (Nat.le_refl _))
    have FX3_6 := Lib.hid (FX3.out.below B (Nat.le_refl _))
    have FY3_6 := Lib.hid (FY3.out.below B (Nat.le_refl _))
    have FZ_6 := Lib.hid SZ
    clear B SZ HB5 FW FX1 FY1 FX2 FY2 FX3 FY3
    have s1 : IntKind.i64.wrap 1 = 1 := rfl; have s2 : IntKind.i64.wrap 2 = 2 := rfl; have s3 : IntKind.i64.wrap 3 = 3 := rfl; have s4 : IntKind.i64.wrap 4 = 4 := rfl
    have m1 : (1 : Int).tmod 3 = 1 := rfl; have m2 : (2 : Int).tmod 3 = 2 := rfl; have m3 : (3 : Int).tmod 3 = 0 := rfl; have m4 : (4 : Int).tmod 3 = 1 := rfl
    go_wp2_with fail
    refine wp_loop_rounds 4 ?_
    rw [rounds_succ]
    go_wp2_with fail
    have RB6 := Lib.hid (below_drew0 w6)
    have QS6 := Lib.hid (show w6.cell? ⟨b9, 0, none⟩ = some (.slice U1 2 u1) ∧ w6.cell? ⟨b9, 1, none⟩ = some (.slice V1 2 v1) ∧ w6.cell? ⟨b9, 2, none⟩ = some (.slice U2 2 u2) ∧ w6.cell? ⟨b9, 3, none⟩ = some (.slice V2 2 v2) ∧ w6.cell? ⟨b9, 4, none⟩ = some (.slice U3 2 u3) ∧ w6.cell? ⟨b9, 5, none⟩ = some (.slice V3 2 v3) from ⟨FW_6.out.cell 0 (v := .slice U1 2 u1) rfl, FW_6.out.cell 1 (v := .slice V1 2 v1) rfl, FW_6.out.cell 2 (v := .slice U2 2 u2) rfl, FW_6.out.cell 3 (v := .slice V2 2 v2) rfl, FW_6.out.cell 4 (v := .slice U3 2 u3) rfl, FW_6.out.cell 5 (v := .slice V3 2 v3) rfl⟩)
    have QF6 := Lib.hid (show ∀ w', Below w6.heap.size w6 w' → w'.cell? ⟨b9, 0, none⟩ = some (.slice U1 2 u1) ∧ w'.cell? ⟨b9, 1, none⟩ = some (.slice V1 2 v1) ∧ w'.cell? ⟨b9, 2, none⟩ = some (.slice U2 2 u2) ∧ w'.cell? ⟨b9, 3, none⟩ = some (.slice V2 2 v2) ∧ w'.cell? ⟨b9, 4, none⟩ = some (.slice U3 2 u3) ∧ w'.cell? ⟨b9, 5, none⟩ = some (.slice V3 2 v3) from fun w' hb => ⟨(FW_6.out.below hb (Nat.le_refl _)).cell 0 (v := .slice U1 2 u1) rfl, (FW_6.out.below hb (Nat.le_refl _)).cell 1 (v := .slice V1 2 v1) rfl, (FW_6.out.below hb (Nat.le_refl _)).cell 2 (v := .slice U2 2 u2) rfl, (FW_6.out.below hb (Nat.le_refl _)).cell 3 (v := .slice V2 2 v2) rfl, (FW_6.out.below hb (Nat.le_refl _)).cell 4 (v := .slice U3 2 u3) rfl, (FW_6.out.below hb (Nat.le_refl _)).cell 5 (v := .slice V3 2 v3) rfl⟩)
    go_region_held3 (fun w' => w'.cell? ⟨b9, 0, none⟩ = some (.slice U1 2 u1) ∧ w'.cell? ⟨b9, 1, none⟩ = some (.slice V1 2 v1) ∧ w'.cell? ⟨b9, 2, none⟩ = some (.slice U2 2 u2) ∧ w'.cell? ⟨b9, 3, none⟩ = some (.slice V2 2 v2) ∧ w'.cell? ⟨b9, 4, none⟩ = some (.slice U3 2 u3) ∧ w'.cell? ⟨b9, 5, none⟩ = some (.slice V3 2 v3)) (first | with_reducible exact QF6.out _ RB8.out | with_reducible exact QF6.out _ RB7.out | with_reducible exact QS6.out | with_reducible exact QF6.out _ RB6.out) (first
          | (go_at_call 74; have := RB7; clear this; refine (limb_Extend C1 4 d1 (mnr bx b_ cx cy dx dy) 3 3 rfl _ RC_7.out (fit_mono (mnr_fit hp.c hp.d hp.e hp.f hp.g hp.h) (by omega)) rfl rfl).mono ?_; rintro e w8 ⟨C2, d2, rfl, SC, B⟩; have RB8 := Lib.hid (RB7.out.trans (B.mono RB7.out.size)); have RC_8 := Lib.hid (RC_7.out.below B (Nat.le_refl _)); have RM_8 := Lib.hid SC; clear B SC)
          | (go_at_call 75; have := RB6; clear this; refine (diff_Cross U2 V2 U3 V3 u2 v2 u3 v3 _ _ _ _ _ (FX2_6.out.below RB6.out (Nat.le_refl _)) (FY2_6.out.below RB6.out (Nat.le_refl _)) (FX3_6.out.below RB6.out (Nat.le_refl _)) (FY3_6.out.below RB6.out (Nat.le_refl _)) (fit_sub hp.c hp.g) (fit_sub hp.d hp.h) (fit_sub hp.e hp.g) (fit_sub hp.f hp.h)).mono ?_; rintro e w7 ⟨⟨C1, d1, rfl, SC⟩, B⟩; have RB7 := Lib.hid (RB6.out.trans (B.mono RB6.out.size)); have RC_7 := Lib.hid (show Sl _ .u64 C1 4 d1 (lmb (mnr bx b_ cx cy dx dy)) from SC); clear B SC))
    have FW_8 := Lib.hid (FW_6.out.below RB8.out (Nat.le_refl _))
    have FX1_8 := Lib.hid (FX1_6.out.below RB8.out (Nat.le_refl _))
    have FY1_8 := Lib.hid (FY1_6.out.below RB8.out (Nat.le_refl _))
    have FX2_8 := Lib.hid (FX2_6.out.below RB8.out (Nat.le_refl _))
    have FY2_8 := Lib.hid (FY2_6.out.below RB8.out (Nat.le_refl _))
    have FX3_8 := Lib.hid (FX3_6.out.below RB8.out (Nat.le_refl _))
    have FY3_8 := Lib.hid (FY3_6.out.below RB8.out (Nat.le_refl _))
    have FZ_8 := Lib.hid (FZ_6.out.below RB8.out (Nat.le_refl _))
    have HB8 := Lib.hid (HB6.out.trans (RB8.out.mono HB6.out.size))
    clear HB6 FW_6 FX1_6 FY1_6 FX2_6 FY2_6 FX3_6 FY3_6 FZ_6
    have vW0 := FW_8.out.cell 0 (v := .slice U1 2 u1) rfl
    have vW1 := FW_8.out.cell 1 (v := .slice V1 2 v1) rfl
    have vW2 := FW_8.out.cell 2 (v := .slice U2 2 u2) rfl
    have vW3 := FW_8.out.cell 3 (v := .slice V2 2 v2) rfl
    have vW4 := FW_8.out.cell 4 (v := .slice U3 2 u3) rfl
    have vW5 := FW_8.out.cell 5 (v := .slice V3 2 v3) rfl
    go_wp2_with fail
    refine (diff_Norm U1 V1 u1 v1 _ _ _ FX1_8.out FY1_8.out (fit_sub hp.a hp.g) (fit_sub hp.b hp.h)).mono ?_
    rintro e w9 ⟨⟨L1, l1, rfl, SL0⟩, B⟩
    clear vW0 vW1 vW2 vW3 vW4 vW5
    have SL := (show Sl _ .u64 L1 4 l1 (lmb (nrm ax ay dx dy)) from SL0); clear SL0
    have HB9 := Lib.hid (HB8.out.trans (B.mono HB8.out.size))
    have FW_9 := Lib.hid (FW_8.out.below B (Nat.le_refl _))
    have FX1_9 := Lib.hid (FX1_8.out.below B (Nat.le_refl _))
    have FY1_9 := Lib.hid (FY1_8.out.below B (Nat.le_refl _))
    have FX2_9 := Lib.hid (FX2_8.out.below B (Nat.le_refl _))
    have FY2_9 := Lib.hid (FY2_8.out.below B (Nat.le_refl _))
    have FX3_9 := Lib.hid (FX3_8.out.below B (Nat.le_refl _))
    have FY3_9 := Lib.hid (FY3_8.out.below B (Nat.le_refl _))
    have FZ_9 := Lib.hid (FZ_8.out.below B (Nat.le_refl _))
    have FM_9 := Lib.hid (RM_8.out.below B (Nat.le_refl _))
    have FL_9 := Lib.hid SL
    clear B SL HB8 FW_8 FX1_8 FY1_8 FX2_8 FY2_8 FX3_8 FY3_8 FZ_8 RM_8
    go_wp2_with fail
    refine (limb_Extend L1 4 l1 (nrm ax ay dx dy) 3 3 rfl _ FL_9.out (fit_mono (nrm_fit hp.a hp.b hp.g hp.h) (by omega)) rfl rfl).mono ?_
    rintro e w10 ⟨L2, l2, rfl, SL, B⟩
    have HB10 := Lib.hid (HB9.out.trans (B.mono HB9.out.size))
    have FW_10 := Lib.hid (FW_9.out.below B (Nat.le_refl _))
    have FX1_10 := Lib.hid (FX1_9.out.below B (Nat.le_refl _))
    have FY1_10 := Lib.hid (FY1_9.out.below B (Nat.le_refl _))
    have FX2_10 := Lib.hid (FX2_9.out.below B (Nat.le_refl _))
    have FY2_10 := Lib.hid (FY2_9.out.below B (Nat.le_refl _))
    have FX3_10 := Lib.hid (FX3_9.out.below B (Nat.le_refl _))
    have FY3_10 := Lib.hid (FY3_9.out.below B (Nat.le_refl _))
    have FZ_10 := Lib.hid (FZ_9.out.below B (Nat.le_refl _))
    have FM_10 := Lib.hid (FM_9.out.below B (Nat.le_refl _))
    have FL_10 := Lib.hid (FL_9.out.below B (Nat.le_refl _))
    have FL_10 := Lib.hid SL
    clear B SL HB9 FW_9 FX1_9 FY1_9 FX2_9 FY2_9 FX3_9 FY3_9 FZ_9 FM_9 FL_9
    go_wp2_with fail
    refine (limb_Mul L2 C2 3 l2 3 d2 (nrm ax ay dx dy) (mnr bx b_ cx cy dx dy) _ FL_10.out FM_10.out (nrm_fit hp.a hp.b hp.g hp.h) (mnr_fit hp.c hp.d hp.e hp.f hp.g hp.h) rfl rfl (by omega)).mono ?_
    rintro e w11 ⟨K1, q1, rfl, SK0, B⟩
    have SK := (show Sl _ .u64 K1 6 q1 (lmb (nrm ax ay dx dy * mnr bx b_ cx cy dx dy)) from SK0); clear SK0
    have HB11 := Lib.hid (HB10.out.trans (B.mono HB10.out.size))
    have FW_11 := Lib.hid (FW_10.out.below B (Nat.le_refl _))
    have FX1_11 := Lib.hid (FX1_10.out.below B (Nat.le_refl _))
    have FY1_11 := Lib.hid (FY1_10.out.below B (Nat.le_refl _))
    have FX2_11 := Lib.hid (FX2_10.out.below B (Nat.le_refl _))
    have FY2_11 := Lib.hid (FY2_10.out.below B (Nat.le_refl _))
    have FX3_11 := Lib.hid (FX3_10.out.below B (Nat.le_refl _))
    have FY3_11 := Lib.hid (FY3_10.out.below B (Nat.le_refl _))
    have FZ_11 := Lib.hid (FZ_10.out.below B (Nat.le_refl _))
    have FM_11 := Lib.hid (FM_10.out.below B (Nat.le_refl _))
    have FL_11 := Lib.hid (FL_10.out.below B (Nat.le_refl _))
    have FK_11 := Lib.hid SK
    clear B SK HB10 FW_10 FX1_10 FY1_10 FX2_10 FY2_10 FX3_10 FY3_10 FZ_10 FM_10 FL_10
    go_wp2_with fail
    refine (limb_Extend K1 6 q1 (nrm ax ay dx dy * mnr bx b_ cx cy dx dy) 5 5 rfl _ FK_11.out (mul_fit6 (nrm_fit hp.a hp.b hp.g hp.h) (mnr_fit hp.c hp.d hp.e hp.f hp.g hp.h)) rfl rfl).mono ?_
    rintro e w12 ⟨K2, q2, rfl, SK, B⟩
    have HB12 := Lib.hid (HB11.out.trans (B.mono HB11.out.size))
    have FW_12 := Lib.hid (FW_11.out.below B (Nat.le_refl _))
    have FX1_12 := Lib.hid (FX1_11.out.below B (Nat.le_refl _))
    have FY1_12 := Lib.hid (FY1_11.out.below B (Nat.le_refl _))
    have FX2_12 := Lib.hid (FX2_11.out.below B (Nat.le_refl _))
    have FY2_12 := Lib.hid (FY2_11.out.below B (Nat.le_refl _))
    have FX3_12 := Lib.hid (FX3_11.out.below B (Nat.le_refl _))
    have FY3_12 := Lib.hid (FY3_11.out.below B (Nat.le_refl _))
    have FZ_12 := Lib.hid (FZ_11.out.below B (Nat.le_refl _))
    have FK_12 := Lib.hid (FK_11.out.below B (Nat.le_refl _))
    have FK_12 := Lib.hid SK
    clear B SK HB11 FW_11 FX1_11 FY1_11 FX2_11 FY2_11 FX3_11 FY3_11 FZ_11 FK_11
    go_wp2_with fail
    refine (limb_Add Z0 K2 5 z0 q2 (0) (nrm ax ay dx dy * mnr bx b_ cx cy dx dy) _ FZ_12.out FK_12.out rfl).mono ?_
    rintro e w13 ⟨Z1, z1, rfl, SZ, B⟩
    have HB13 := Lib.hid (HB12.out.trans (B.mono HB12.out.size))
    have FW_13 := Lib.hid (FW_12.out.below B (Nat.le_refl _))
    have FX1_13 := Lib.hid (FX1_12.out.below B (Nat.le_refl _))
    have FY1_13 := Lib.hid (FY1_12.out.below B (Nat.le_refl _))
    have FX2_13 := Lib.hid (FX2_12.out.below B (Nat.le_refl _))
    have FY2_13 := Lib.hid (FY2_12.out.below B (Nat.le_refl _))
    have FX3_13 := Lib.hid (FX3_12.out.below B (Nat.le_refl _))
    have FY3_13 := Lib.hid (FY3_12.out.below B (Nat.le_refl _))
    have FZ_13 := Lib.hid (FZ_12.out.below B (Nat.le_refl _))
    have FK_13 := Lib.hid (FK_12.out.below B (Nat.le_refl _))
    have FZ_13 := Lib.hid SZ
    clear B SZ HB12 FW_12 FX1_12 FY1_12 FX2_12 FY2_12 FX3_12 FY3_12 FZ_12 FK_12
    go_wp2_with fail
    rw [rounds_succ]
    go_wp2_with fail
    have RB13 := Lib.hid (below_drew0 w13)
    have QS13 := Lib.hid (show w13.cell? ⟨b9, 0, none⟩ = some (.slice U1 2 u1) ∧ w13.cell? ⟨b9, 1, none⟩ = some (.slice V1 2 v1) ∧ w13.cell? ⟨b9, 2, none⟩ = some (.slice U2 2 u2) ∧ w13.cell? ⟨b9, 3, none⟩ = some (.slice V2 2 v2) ∧ w13.cell? ⟨b9, 4, none⟩ = some (.slice U3 2 u3) ∧ w13.cell? ⟨b9, 5, none⟩ = some (.slice V3 2 v3) from ⟨FW_13.out.cell 0 (v := .slice U1 2 u1) rfl, FW_13.out.cell 1 (v := .slice V1 2 v1) rfl, FW_13.out.cell 2 (v := .slice U2 2 u2) rfl, FW_13.out.cell 3 (v := .slice V2 2 v2) rfl, FW_13.out.cell 4 (v := .slice U3 2 u3) rfl, FW_13.out.cell 5 (v := .slice V3 2 v3) rfl⟩)
    have QF13 := Lib.hid (show ∀ w', Below w13.heap.size w13 w' → w'.cell? ⟨b9, 0, none⟩ = some (.slice U1 2 u1) ∧ w'.cell? ⟨b9, 1, none⟩ = some (.slice V1 2 v1) ∧ w'.cell? ⟨b9, 2, none⟩ = some (.slice U2 2 u2) ∧ w'.cell? ⟨b9, 3, none⟩ = some (.slice V2 2 v2) ∧ w'.cell? ⟨b9, 4, none⟩ = some (.slice U3 2 u3) ∧ w'.cell? ⟨b9, 5, none⟩ = some (.slice V3 2 v3) from fun w' hb => ⟨(FW_13.out.below hb (Nat.le_refl _)).cell 0 (v := .slice U1 2 u1) rfl, (FW_13.out.below hb (Nat.le_refl _)).cell 1 (v := .slice V1 2 v1) rfl, (FW_13.out.below hb (Nat.le_refl _)).cell 2 (v := .slice U2 2 u2) rfl, (FW_13.out.below hb (Nat.le_refl _)).cell 3 (v := .slice V2 2 v2) rfl, (FW_13.out.below hb (Nat.le_refl _)).cell 4 (v := .slice U3 2 u3) rfl, (FW_13.out.below hb (Nat.le_refl _)).cell 5 (v := .slice V3 2 v3) rfl⟩)
    go_region_held3 (fun w' => w'.cell? ⟨b9, 0, none⟩ = some (.slice U1 2 u1) ∧ w'.cell? ⟨b9, 1, none⟩ = some (.slice V1 2 v1) ∧ w'.cell? ⟨b9, 2, none⟩ = some (.slice U2 2 u2) ∧ w'.cell? ⟨b9, 3, none⟩ = some (.slice V2 2 v2) ∧ w'.cell? ⟨b9, 4, none⟩ = some (.slice U3 2 u3) ∧ w'.cell? ⟨b9, 5, none⟩ = some (.slice V3 2 v3)) (first | with_reducible exact QF13.out _ RB15.out | with_reducible exact QF13.out _ RB14.out | with_reducible exact QS13.out | with_reducible exact QF13.out _ RB13.out) (first
          | (go_at_call 74; have := RB14; clear this; refine (limb_Extend C1 4 d1 (mnr cx cy ax ay dx dy) 3 3 rfl _ RC_14.out (fit_mono (mnr_fit hp.e hp.f hp.a hp.b hp.g hp.h) (by omega)) rfl rfl).mono ?_; rintro e w15 ⟨C2, d2, rfl, SC, B⟩; have RB15 := Lib.hid (RB14.out.trans (B.mono RB14.out.size)); have RC_15 := Lib.hid (RC_14.out.below B (Nat.le_refl _)); have RM_15 := Lib.hid SC; clear B SC)
          | (go_at_call 75; have := RB13; clear this; refine (diff_Cross U3 V3 U1 V1 u3 v3 u1 v1 _ _ _ _ _ (FX3_13.out.below RB13.out (Nat.le_refl _)) (FY3_13.out.below RB13.out (Nat.le_refl _)) (FX1_13.out.below RB13.out (Nat.le_refl _)) (FY1_13.out.below RB13.out (Nat.le_refl _)) (fit_sub hp.e hp.g) (fit_sub hp.f hp.h) (fit_sub hp.a hp.g) (fit_sub hp.b hp.h)).mono ?_; rintro e w14 ⟨⟨C1, d1, rfl, SC⟩, B⟩; have RB14 := Lib.hid (RB13.out.trans (B.mono RB13.out.size)); have RC_14 := Lib.hid (show Sl _ .u64 C1 4 d1 (lmb (mnr cx cy ax ay dx dy)) from SC); clear B SC))
    have FW_15 := Lib.hid (FW_13.out.below RB15.out (Nat.le_refl _))
    have FX1_15 := Lib.hid (FX1_13.out.below RB15.out (Nat.le_refl _))
    have FY1_15 := Lib.hid (FY1_13.out.below RB15.out (Nat.le_refl _))
    have FX2_15 := Lib.hid (FX2_13.out.below RB15.out (Nat.le_refl _))
    have FY2_15 := Lib.hid (FY2_13.out.below RB15.out (Nat.le_refl _))
    have FX3_15 := Lib.hid (FX3_13.out.below RB15.out (Nat.le_refl _))
    have FY3_15 := Lib.hid (FY3_13.out.below RB15.out (Nat.le_refl _))
    have FZ_15 := Lib.hid (FZ_13.out.below RB15.out (Nat.le_refl _))
    have HB15 := Lib.hid (HB13.out.trans (RB15.out.mono HB13.out.size))
    clear HB13 FW_13 FX1_13 FY1_13 FX2_13 FY2_13 FX3_13 FY3_13 FZ_13
    have vW0 := FW_15.out.cell 0 (v := .slice U1 2 u1) rfl
    have vW1 := FW_15.out.cell 1 (v := .slice V1 2 v1) rfl
    have vW2 := FW_15.out.cell 2 (v := .slice U2 2 u2) rfl
    have vW3 := FW_15.out.cell 3 (v := .slice V2 2 v2) rfl
    have vW4 := FW_15.out.cell 4 (v := .slice U3 2 u3) rfl
    have vW5 := FW_15.out.cell 5 (v := .slice V3 2 v3) rfl
    go_wp2_with fail
    refine (diff_Norm U2 V2 u2 v2 _ _ _ FX2_15.out FY2_15.out (fit_sub hp.c hp.g) (fit_sub hp.d hp.h)).mono ?_
    rintro e w16 ⟨⟨L1, l1, rfl, SL0⟩, B⟩
    clear vW0 vW1 vW2 vW3 vW4 vW5
    have SL := (show Sl _ .u64 L1 4 l1 (lmb (nrm bx b_ dx dy)) from SL0); clear SL0
    have HB16 := Lib.hid (HB15.out.trans (B.mono HB15.out.size))
    have FW_16 := Lib.hid (FW_15.out.below B (Nat.le_refl _))
    have FX1_16 := Lib.hid (FX1_15.out.below B (Nat.le_refl _))
    have FY1_16 := Lib.hid (FY1_15.out.below B (Nat.le_refl _))
    have FX2_16 := Lib.hid (FX2_15.out.below B (Nat.le_refl _))
    have FY2_16 := Lib.hid (FY2_15.out.below B (Nat.le_refl _))
    have FX3_16 := Lib.hid (FX3_15.out.below B (Nat.le_refl _))
    have FY3_16 := Lib.hid (FY3_15.out.below B (Nat.le_refl _))
    have FZ_16 := Lib.hid (FZ_15.out.below B (Nat.le_refl _))
    have FM_16 := Lib.hid (RM_15.out.below B (Nat.le_refl _))
    have FL_16 := Lib.hid SL
    clear B SL HB15 FW_15 FX1_15 FY1_15 FX2_15 FY2_15 FX3_15 FY3_15 FZ_15 RM_15
    go_wp2_with fail
    refine (limb_Extend L1 4 l1 (nrm bx b_ dx dy) 3 3 rfl _ FL_16.out (fit_mono (nrm_fit hp.c hp.d hp.g hp.h) (by omega)) rfl rfl).mono ?_
    rintro e w17 ⟨L2, l2, rfl, SL, B⟩
    have HB17 := Lib.hid (HB16.out.trans (B.mono HB16.out.size))
    have FW_17 := Lib.hid (FW_16.out.below B (Nat.le_refl _))
    have FX1_17 := Lib.hid (FX1_16.out.below B (Nat.le_refl _))
    have FY1_17 := Lib.hid (FY1_16.out.below B (Nat.le_refl _))
    have FX2_17 := Lib.hid (FX2_16.out.below B (Nat.le_refl _))
    have FY2_17 := Lib.hid (FY2_16.out.below B (Nat.le_refl _))
    have FX3_17 := Lib.hid (FX3_16.out.below B (Nat.le_refl _))
    have FY3_17 := Lib.hid (FY3_16.out.below B (Nat.le_refl _))
    have FZ_17 := Lib.hid (FZ_16.out.below B (Nat.le_refl _))
    have FM_17 := Lib.hid (FM_16.out.below B (Nat.le_refl _))
    have FL_17 := Lib.hid (FL_16.out.below B (Nat.le_refl _))
    have FL_17 := Lib.hid SL
    clear B SL HB16 FW_16 FX1_16 FY1_16 FX2_16 FY2_16 FX3_16 FY3_16 FZ_16 FM_16 FL_16
    go_wp2_with fail
    refine (limb_Mul L2 C2 3 l2 3 d2 (nrm bx b_ dx dy) (mnr cx cy ax ay dx dy) _ FL_17.out FM_17.out (nrm_fit hp.c hp.d hp.g hp.h) (mnr_fit hp.e hp.f hp.a hp.b hp.g hp.h) rfl rfl (by omega)).mono ?_
    rintro e w18 ⟨K1, q1, rfl, SK0, B⟩
    have SK := (show Sl _ .u64 K1 6 q1 (lmb (nrm bx b_ dx dy * mnr cx cy ax ay dx dy)) from SK0); clear SK0
    have HB18 := Lib.hid (HB17.out.trans (B.mono HB17.out.size))
    have FW_18 := Lib.hid (FW_17.out.below B (Nat.le_refl _))
    have FX1_18 := Lib.hid (FX1_17.out.below B (Nat.le_refl _))
    have FY1_18 := Lib.hid (FY1_17.out.below B (Nat.le_refl _))
    have FX2_18 := Lib.hid (FX2_17.out.below B (Nat.le_refl _))
    have FY2_18 := Lib.hid (FY2_17.out.below B (Nat.le_refl _))
    have FX3_18 := Lib.hid (FX3_17.out.below B (Nat.le_refl _))
    have FY3_18 := Lib.hid (FY3_17.out.below B (Nat.le_refl _))
    have FZ_18 := Lib.hid (FZ_17.out.below B (Nat.le_refl _))
    have FM_18 := Lib.hid (FM_17.out.below B (Nat.le_refl _))
    have FL_18 := Lib.hid (FL_17.out.below B (Nat.le_refl _))
    have FK_18 := Lib.hid SK
    clear B SK HB17 FW_17 FX1_17 FY1_17 FX2_17 FY2_17 FX3_17 FY3_17 FZ_17 FM_17 FL_17
    go_wp2_with fail
    refine (limb_Extend K1 6 q1 (nrm bx b_ dx dy * mnr cx cy ax ay dx dy) 5 5 rfl _ FK_18.out (mul_fit6 (nrm_fit hp.c hp.d hp.g hp.h) (mnr_fit hp.e hp.f hp.a hp.b hp.g hp.h)) rfl rfl).mono ?_
    rintro e w19 ⟨K2, q2, rfl, SK, B⟩
    have HB19 := Lib.hid (HB18.out.trans (B.mono HB18.out.size))
    have FW_19 := Lib.hid (FW_18.out.below B (Nat.le_refl _))
    have FX1_19 := Lib.hid (FX1_18.out.below B (Nat.le_refl _))
    have FY1_19 := Lib.hid (FY1_18.out.below B (Nat.le_refl _))
    have FX2_19 := Lib.hid (FX2_18.out.below B (Nat.le_refl _))
    have FY2_19 := Lib.hid (FY2_18.out.below B (Nat.le_refl _))
    have FX3_19 := Lib.hid (FX3_18.out.below B (Nat.le_refl _))
    have FY3_19 := Lib.hid (FY3_18.out.below B (Nat.le_refl _))
    have FZ_19 := Lib.hid (FZ_18.out.below B (Nat.le_refl _))
    have FK_19 := Lib.hid (FK_18.out.below B (Nat.le_refl _))
    have FK_19 := Lib.hid SK
    clear B SK HB18 FW_18 FX1_18 FY1_18 FX2_18 FY2_18 FX3_18 FY3_18 FZ_18 FK_18
    go_wp2_with fail
    refine (limb_Add Z1 K2 5 z1 q2 (0 + nrm ax ay dx dy * mnr bx b_ cx cy dx dy) (nrm bx b_ dx dy * mnr cx cy ax ay dx dy) _ FZ_19.out FK_19.out rfl).mono ?_
    rintro e w20 ⟨Z2, z2, rfl, SZ, B⟩
    have HB20 := Lib.hid (HB19.out.trans (B.mono HB19.out.size))
    have FW_20 := Lib.hid (FW_19.out.below B (Nat.le_refl _))
    have FX1_20 := Lib.hid (FX1_19.out.below B (Nat.le_refl _))
    have FY1_20 := Lib.hid (FY1_19.out.below B (Nat.le_refl _))
    have FX2_20 := Lib.hid (FX2_19.out.below B (Nat.le_refl _))
    have FY2_20 := Lib.hid (FY2_19.out.below B (Nat.le_refl _))
    have FX3_20 := Lib.hid (FX3_19.out.below B (Nat.le_refl _))
    have FY3_20 := Lib.hid (FY3_19.out.below B (Nat.le_refl _))
    have FZ_20 := Lib.hid (FZ_19.out.below B (Nat.le_refl _))
    have FK_20 := Lib.hid (FK_19.out.below B (Nat.le_refl _))
    have FZ_20 := Lib.hid SZ
    clear B SZ HB19 FW_19 FX1_19 FY1_19 FX2_19 FY2_19 FX3_19 FY3_19 FZ_19 FK_19
    go_wp2_with fail
    rw [rounds_succ]
    go_wp2_with fail
    have RB20 := Lib.hid (below_drew0 w20)
    have QS20 := Lib.hid (show w20.cell? ⟨b9, 0, none⟩ = some (.slice U1 2 u1) ∧ w20.cell? ⟨b9, 1, none⟩ = some (.slice V1 2 v1) ∧ w20.cell? ⟨b9, 2, none⟩ = some (.slice U2 2 u2) ∧ w20.cell? ⟨b9, 3, none⟩ = some (.slice V2 2 v2) ∧ w20.cell? ⟨b9, 4, none⟩ = some (.slice U3 2 u3) ∧ w20.cell? ⟨b9, 5, none⟩ = some (.slice V3 2 v3) from ⟨FW_20.out.cell 0 (v := .slice U1 2 u1) rfl, FW_20.out.cell 1 (v := .slice V1 2 v1) rfl, FW_20.out.cell 2 (v := .slice U2 2 u2) rfl, FW_20.out.cell 3 (v := .slice V2 2 v2) rfl, FW_20.out.cell 4 (v := .slice U3 2 u3) rfl, FW_20.out.cell 5 (v := .slice V3 2 v3) rfl⟩)
    have QF20 := Lib.hid (show ∀ w', Below w20.heap.size w20 w' → w'.cell? ⟨b9, 0, none⟩ = some (.slice U1 2 u1) ∧ w'.cell? ⟨b9, 1, none⟩ = some (.slice V1 2 v1) ∧ w'.cell? ⟨b9, 2, none⟩ = some (.slice U2 2 u2) ∧ w'.cell? ⟨b9, 3, none⟩ = some (.slice V2 2 v2) ∧ w'.cell? ⟨b9, 4, none⟩ = some (.slice U3 2 u3) ∧ w'.cell? ⟨b9, 5, none⟩ = some (.slice V3 2 v3) from fun w' hb => ⟨(FW_20.out.below hb (Nat.le_refl _)).cell 0 (v := .slice U1 2 u1) rfl, (FW_20.out.below hb (Nat.le_refl _)).cell 1 (v := .slice V1 2 v1) rfl, (FW_20.out.below hb (Nat.le_refl _)).cell 2 (v := .slice U2 2 u2) rfl, (FW_20.out.below hb (Nat.le_refl _)).cell 3 (v := .slice V2 2 v2) rfl, (FW_20.out.below hb (Nat.le_refl _)).cell 4 (v := .slice U3 2 u3) rfl, (FW_20.out.below hb (Nat.le_refl _)).cell 5 (v := .slice V3 2 v3) rfl⟩)
    go_region_held3 (fun w' => w'.cell? ⟨b9, 0, none⟩ = some (.slice U1 2 u1) ∧ w'.cell? ⟨b9, 1, none⟩ = some (.slice V1 2 v1) ∧ w'.cell? ⟨b9, 2, none⟩ = some (.slice U2 2 u2) ∧ w'.cell? ⟨b9, 3, none⟩ = some (.slice V2 2 v2) ∧ w'.cell? ⟨b9, 4, none⟩ = some (.slice U3 2 u3) ∧ w'.cell? ⟨b9, 5, none⟩ = some (.slice V3 2 v3)) (first | with_reducible exact QF20.out _ RB22.out | with_reducible exact QF20.out _ RB21.out | with_reducible exact QS20.out | with_reducible exact QF20.out _ RB20.out) (first
          | (go_at_call 74; have := RB21; clear this; refine (limb_Extend C1 4 d1 (mnr ax ay bx b_ dx dy) 3 3 rfl _ RC_21.out (fit_mono (mnr_fit hp.a hp.b hp.c hp.d hp.g hp.h) (by omega)) rfl rfl).mono ?_; rintro e w22 ⟨C2, d2, rfl, SC, B⟩; have RB22 := Lib.hid (RB21.out.trans (B.mono RB21.out.size)); have RC_22 := Lib.hid (RC_21.out.below B (Nat.le_refl _)); have RM_22 := Lib.hid SC; clear B SC)
          | (go_at_call 75; have := RB20; clear this; refine (diff_Cross U1 V1 U2 V2 u1 v1 u2 v2 _ _ _ _ _ (FX1_20.out.below RB20.out (Nat.le_refl _)) (FY1_20.out.below RB20.out (Nat.le_refl _)) (FX2_20.out.below RB20.out (Nat.le_refl _)) (FY2_20.out.below RB20.out (Nat.le_refl _)) (fit_sub hp.a hp.g) (fit_sub hp.b hp.h) (fit_sub hp.c hp.g) (fit_sub hp.d hp.h)).mono ?_; rintro e w21 ⟨⟨C1, d1, rfl, SC⟩, B⟩; have RB21 := Lib.hid (RB20.out.trans (B.mono RB20.out.size)); have RC_21 := Lib.hid (show Sl _ .u64 C1 4 d1 (lmb (mnr ax ay bx b_ dx dy)) from SC); clear B SC))
    have FW_22 := Lib.hid (FW_20.out.below RB22.out (Nat.le_refl _))
    have FX1_22 := Lib.hid (FX1_20.out.below RB22.out (Nat.le_refl _))
    have FY1_22 := Lib.hid (FY1_20.out.below RB22.out (Nat.le_refl _))
    have FX2_22 := Lib.hid (FX2_20.out.below RB22.out (Nat.le_refl _))
    have FY2_22 := Lib.hid (FY2_20.out.below RB22.out (Nat.le_refl _))
    have FX3_22 := Lib.hid (FX3_20.out.below RB22.out (Nat.le_refl _))
    have FY3_22 := Lib.hid (FY3_20.out.below RB22.out (Nat.le_refl _))
    have FZ_22 := Lib.hid (FZ_20.out.below RB22.out (Nat.le_refl _))
    have HB22 := Lib.hid (HB20.out.trans (RB22.out.mono HB20.out.size))
    clear HB20 FW_20 FX1_20 FY1_20 FX2_20 FY2_20 FX3_20 FY3_20 FZ_20
    have vW0 := FW_22.out.cell 0 (v := .slice U1 2 u1) rfl
    have vW1 := FW_22.out.cell 1 (v := .slice V1 2 v1) rfl
    have vW2 := FW_22.out.cell 2 (v := .slice U2 2 u2) rfl
    have vW3 := FW_22.out.cell 3 (v := .slice V2 2 v2) rfl
    have vW4 := FW_22.out.cell 4 (v := .slice U3 2 u3) rfl
    have vW5 := FW_22.out.cell 5 (v := .slice V3 2 v3) rfl
    go_wp2_with fail
    refine (diff_Norm U3 V3 u3 v3 _ _ _ FX3_22.out FY3_22.out (fit_sub hp.e hp.g) (fit_sub hp.f hp.h)).mono ?_
    rintro e w23 ⟨⟨L1, l1, rfl, SL0⟩, B⟩
    clear vW0 vW1 vW2 vW3 vW4 vW5
    have SL := (show Sl _ .u64 L1 4 l1 (lmb (nrm cx cy dx dy)) from SL0); clear SL0
    have HB23 := Lib.hid (HB22.out.trans (B.mono HB22.out.size))
    have FW_23 := Lib.hid (FW_22.out.below B (Nat.le_refl _))
    have FX1_23 := Lib.hid (FX1_22.out.below B (Nat.le_refl _))
    have FY1_23 := Lib.hid (FY1_22.out.below B (Nat.le_refl _))
    have FX2_23 := Lib.hid (FX2_22.out.below B (Nat.le_refl _))
    have FY2_23 := Lib.hid (FY2_22.out.below B (Nat.le_refl _))
    have FX3_23 := Lib.hid (FX3_22.out.below B (Nat.le_refl _))
    have FY3_23 := Lib.hid (FY3_22.out.below B (Nat.le_refl _))
    have FZ_23 := Lib.hid (FZ_22.out.below B (Nat.le_refl _))
    have FM_23 := Lib.hid (RM_22.out.below B (Nat.le_refl _))
    have FL_23 := Lib.hid SL
    clear B SL HB22 FW_22 FX1_22 FY1_22 FX2_22 FY2_22 FX3_22 FY3_22 FZ_22 RM_22
    go_wp2_with fail
    refine (limb_Extend L1 4 l1 (nrm cx cy dx dy) 3 3 rfl _ FL_23.out (fit_mono (nrm_fit hp.e hp.f hp.g hp.h) (by omega)) rfl rfl).mono ?_
    rintro e w24 ⟨L2, l2, rfl, SL, B⟩
    have HB24 := Lib.hid (HB23.out.trans (B.mono HB23.out.size))
    have FW_24 := Lib.hid (FW_23.out.below B (Nat.le_refl _))
    have FX1_24 := Lib.hid (FX1_23.out.below B (Nat.le_refl _))
    have FY1_24 := Lib.hid (FY1_23.out.below B (Nat.le_refl _))
    have FX2_24 := Lib.hid (FX2_23.out.below B (Nat.le_refl _))
    have FY2_24 := Lib.hid (FY2_23.out.below B (Nat.le_refl _))
    have FX3_24 := Lib.hid (FX3_23.out.below B (Nat.le_refl _))
    have FY3_24 := Lib.hid (FY3_23.out.below B (Nat.le_refl _))
    have FZ_24 := Lib.hid (FZ_23.out.below B (Nat.le_refl _))
    have FM_24 := Lib.hid (FM_23.out.below B (Nat.le_refl _))
    have FL_24 := Lib.hid (FL_23.out.below B (Nat.le_refl _))
    have FL_24 := Lib.hid SL
    clear B SL HB23 FW_23 FX1_23 FY1_23 FX2_23 FY2_23 FX3_23 FY3_23 FZ_23 FM_23 FL_23
    go_wp2_with fail
    refine (limb_Mul L2 C2 3 l2 3 d2 (nrm cx cy dx dy) (mnr ax ay bx b_ dx dy) _ FL_24.out FM_24.out (nrm_fit hp.e hp.f hp.g hp.h) (mnr_fit hp.a hp.b hp.c hp.d hp.g hp.h) rfl rfl (by omega)).mono ?_
    rintro e w25 ⟨K1, q1, rfl, SK0, B⟩
    have SK := (show Sl _ .u64 K1 6 q1 (lmb (nrm cx cy dx dy * mnr ax ay bx b_ dx dy)) from SK0); clear SK0
    have HB25 := Lib.hid (HB24.out.trans (B.mono HB24.out.size))
    have FW_25 := Lib.hid (FW_24.out.below B (Nat.le_refl _))
    have FX1_25 := Lib.hid (FX1_24.out.below B (Nat.le_refl _))
    have FY1_25 := Lib.hid (FY1_24.out.below B (Nat.le_refl _))
    have FX2_25 := Lib.hid (FX2_24.out.below B (Nat.le_refl _))
    have FY2_25 := Lib.hid (FY2_24.out.below B (Nat.le_refl _))
    have FX3_25 := Lib.hid (FX3_24.out.below B (Nat.le_refl _))
    have FY3_25 := Lib.hid (FY3_24.out.below B (Nat.le_refl _))
    have FZ_25 := Lib.hid (FZ_24.out.below B (Nat.le_refl _))
    have FM_25 := Lib.hid (FM_24.out.below B (Nat.le_refl _))
    have FL_25 := Lib.hid (FL_24.out.below B (Nat.le_refl _))
    have FK_25 := Lib.hid SK
    clear B SK HB24 FW_24 FX1_24 FY1_24 FX2_24 FY2_24 FX3_24 FY3_24 FZ_24 FM_24 FL_24
    go_wp2_with fail
    refine (limb_Extend K1 6 q1 (nrm cx cy dx dy * mnr ax ay bx b_ dx dy) 5 5 rfl _ FK_25.out (mul_fit6 (nrm_fit hp.e hp.f hp.g hp.h) (mnr_fit hp.a hp.b hp.c hp.d hp.g hp.h)) rfl rfl).mono ?_
    rintro e w26 ⟨K2, q2, rfl, SK, B⟩
    have HB26 := Lib.hid (HB25.out.trans (B.mono HB25.out.size))
    have FW_26 := Lib.hid (FW_25.out.below B (Nat.le_refl _))
    have FX1_26 := Lib.hid (FX1_25.out.below B (Nat.le_refl _))
    have FY1_26 := Lib.hid (FY1_25.out.below B (Nat.le_refl _))
    have FX2_26 := Lib.hid (FX2_25.out.below B (Nat.le_refl _))
    have FY2_26 := Lib.hid (FY2_25.out.below B (Nat.le_refl _))
    have FX3_26 := Lib.hid (FX3_25.out.below B (Nat.le_refl _))
    have FY3_26 := Lib.hid (FY3_25.out.below B (Nat.le_refl _))
    have FZ_26 := Lib.hid (FZ_25.out.below B (Nat.le_refl _))
    have FK_26 := Lib.hid (FK_25.out.below B (Nat.le_refl _))
    have FK_26 := Lib.hid SK
    clear B SK HB25 FW_25 FX1_25 FY1_25 FX2_25 FY2_25 FX3_25 FY3_25 FZ_25 FK_25
    go_wp2_with fail
    refine (limb_Add Z2 K2 5 z2 q2 (0 + nrm ax ay dx dy * mnr bx b_ cx cy dx dy + nrm bx b_ dx dy * mnr cx cy ax ay dx dy) (nrm cx cy dx dy * mnr ax ay bx b_ dx dy) _ FZ_26.out FK_26.out rfl).mono ?_
    rintro e w27 ⟨Z3, z3, rfl, SZ, B⟩
    have HB27 := Lib.hid (HB26.out.trans (B.mono HB26.out.size))
    have FW_27 := Lib.hid (FW_26.out.below B (Nat.le_refl _))
    have FX1_27 := Lib.hid (FX1_26.out.below B (Nat.le_refl _))
    have FY1_27 := Lib.hid (FY1_26.out.below B (Nat.le_refl _))
    have FX2_27 := Lib.hid (FX2_26.out.below B (Nat.le_refl _))
    have FY2_27 := Lib.hid (FY2_26.out.below B (Nat.le_refl _))
    have FX3_27 := Lib.hid (FX3_26.out.below B (Nat.le_refl _))
    have FY3_27 := Lib.hid (FY3_26.out.below B (Nat.le_refl _))
    have FZ_27 := Lib.hid (FZ_26.out.below B (Nat.le_refl _))
    have FK_27 := Lib.hid (FK_26.out.below B (Nat.le_refl _))
    have FZ_27 := Lib.hid SZ
    clear B SZ HB26 FW_26 FX1_26 FY1_26 FX2_26 FY2_26 FX3_26 FY3_26 FZ_26 FK_26
    go_wp2_with fail
    rw [rounds_succ]
    go_wp2_with fail
    go_ret
    have ez : 0 + nrm ax ay dx dy * mnr bx b_ cx cy dx dy + nrm bx b_ dx dy * mnr cx cy ax ay dx dy + nrm cx cy dx dy * mnr ax ay bx b_ dx dy = circ ax ay bx b_ cx cy dx dy := by unfold circ; omega
    exact ⟨⟨_, _, rfl, by rw [← ez]; exact FZ_27.out⟩, HB27.out⟩

set_option maxHeartbeats 1000000 in
theorem circle_Sign (ax ay bx b_ cx cy dx dy : Int) (hp : P4 ax ay bx b_ cx cy dx dy) (w : World) (hT : TabM w) :
    Calls Tryz.prog 144 #[.agg #[.int .i64 ax, .int .i64 ay], .agg #[.int .i64 bx, .int .i64 b_], .agg #[.int .i64 cx, .int .i64 cy], .agg #[.int .i64 dx, .int .i64 dy]] w fun e w' => e = .returned (.int .i64 (sg (circ ax ay bx b_ cx cy dx dy))) ∧ Below w.heap.size w w' := by
  have HB0 := Lib.hid (Below.refl w.heap.size w)
  have FT := Lib.hid hT
  clear hT
  have HF := Lib.hid hp.fit
  go_enter Tryz.func144, Tryz.ntmps144
  go_wp2_with fail
  refine (circle_Value _ _ _ _ _ _ _ _ hp _).mono ?_
  rintro e w1 ⟨⟨U1, u1, rfl, S1⟩, B⟩
  have HB1 := Lib.hid (((((HB0.out.alloc HB0.out.size _).alloc (HB0.out.alloc HB0.out.size _).size _).alloc ((HB0.out.alloc HB0.out.size _).alloc (HB0.out.alloc HB0.out.size _).size _).size _).alloc (((HB0.out.alloc HB0.out.size _).alloc (HB0.out.alloc HB0.out.size _).size _).alloc ((HB0.out.alloc HB0.out.size _).alloc (HB0.out.alloc HB0.out.size _).size _).size _).size _).trans (B.mono ((((HB0.out.alloc HB0.out.size _).alloc (HB0.out.alloc HB0.out.size _).size _).alloc ((HB0.out.alloc HB0.out.size _).alloc (HB0.out.alloc HB0.out.size _).size _).size _).alloc (((HB0.out.alloc HB0.out.size _).alloc (HB0.out.alloc HB0.out.size _).size _).alloc ((HB0.out.alloc HB0.out.size _).alloc (HB0.out.alloc HB0.out.size _).size _).size _).size _).size))
  have FT_1 := Lib.hid (((((FT.out.alloc _).alloc _).alloc _).alloc _).below B (Nat.le_refl _))
  have FX_1 := Lib.hid S1
  clear B S1 HB0 FT
  go_wp2_with fail
  refine (limb_Sign _ _ _ _ _ FX_1.out HF.out rfl FT_1.out).mono ?_
  rintro e w2 ⟨rfl, B⟩
  have HB2 := Lib.hid (HB1.out.trans (B.mono HB1.out.size))
  have FT_2 := Lib.hid (FT_1.out.below B (Nat.le_refl _))
  have FX_2 := Lib.hid (FX_1.out.below B (Nat.le_refl _))
  clear B  HB1 FT_1 FX_1
  go_wp2_with fail
  go_ret
  exact ⟨rfl, HB2.out⟩

theorem sg_mul_range (x y : Int) : -1 ≤ sg x * sg y ∧ sg x * sg y ≤ 1 := by
  have h := abs_mul_le (a := 1) (b := 1) (sign_range x) (sign_range y)
  exact h
theorem wrap_sg2 (x y : Int) : IntKind.i64.wrap (sg x * sg y) = sg x * sg y := by have := sg_mul_range x y; rw [IntKind.wrap_i64]; omega
set_option maxHeartbeats 2000000 in
theorem circle_Side (ax ay bx b_ cx cy dx dy : Int) (hp : P4 ax ay bx b_ cx cy dx dy) (w : World) (hT : TabM w) :
    Calls Tryz.prog 202 #[.agg #[.int .i64 ax, .int .i64 ay], .agg #[.int .i64 bx, .int .i64 b_], .agg #[.int .i64 cx, .int .i64 cy], .agg #[.int .i64 dx, .int .i64 dy]] w fun e w' => e = .returned (.int .i64 (sg (circ ax ay bx b_ cx cy dx dy) * sg (det ax ay bx b_ cx cy))) ∧ Below w.heap.size w w' := by
  have HB0 := Lib.hid (Below.refl w.heap.size w)
  have FT := Lib.hid hT
  clear hT
  have r1 := sign_range (circ ax ay bx b_ cx cy dx dy); have r2 := sign_range (det ax ay bx b_ cx cy)
  have hw := wrap_sg2 (circ ax ay bx b_ cx cy dx dy) (det ax ay bx b_ cx cy)
  go_enter Tryz.func202, Tryz.ntmps202
  go_wp2_with fail
  have B : Below w.heap.size w ((((w.alloc (.cells #[.int .i64 ax, .int .i64 ay] 23)).alloc (.cells #[.int .i64 bx, .int .i64 b_] 23)).alloc (.cells #[.int .i64 cx, .int .i64 cy] 23)).alloc (.cells #[.int .i64 dx, .int .i64 dy] 23)) := ((((HB0.out.alloc HB0.out.size _).alloc (HB0.out.alloc HB0.out.size _).size _).alloc ((HB0.out.alloc HB0.out.size _).alloc (HB0.out.alloc HB0.out.size _).size _).size _).alloc (((HB0.out.alloc HB0.out.size _).alloc (HB0.out.alloc HB0.out.size _).size _).alloc ((HB0.out.alloc HB0.out.size _).alloc (HB0.out.alloc HB0.out.size _).size _).size _).size _)
  have C : Below w.heap.size w ((((w.alloc (.cells #[.int .i64 ax, .int .i64 ay] 23)).alloc (.cells #[.int .i64 bx, .int .i64 b_] 23)).alloc (.cells #[.int .i64 cx, .int .i64 cy] 23)).alloc (.cells #[.int .i64 dx, .int .i64 dy] 23)) := (((((Below.refl w.heap.size w).alloc (Nat.le_refl _) _).alloc (by simp; try omega) _).alloc (by simp; try omega) _).alloc (by simp; try omega) _)
  have X0 : Bx ((((w.alloc (.cells #[.int .i64 ax, .int .i64 ay] 23)).alloc (.cells #[.int .i64 bx, .int .i64 b_] 23)).alloc (.cells #[.int .i64 cx, .int .i64 cy] 23)).alloc (.cells #[.int .i64 dx, .int .i64 dy] 23)) (w.heap.size) #[.int .i64 ax, .int .i64 ay] 23 := by simpa using ((((Bx.new w #[.int .i64 ax, .int .i64 ay] 23).alloc _).alloc _).alloc _)
  have X1 : Bx ((((w.alloc (.cells #[.int .i64 ax, .int .i64 ay] 23)).alloc (.cells #[.int .i64 bx, .int .i64 b_] 23)).alloc (.cells #[.int .i64 cx, .int .i64 cy] 23)).alloc (.cells #[.int .i64 dx, .int .i64 dy] 23)) (w.heap.size + 1) #[.int .i64 bx, .int .i64 b_] 23 := by simpa using (((Bx.new (w.alloc (.cells #[.int .i64 ax, .int .i64 ay] 23)) #[.int .i64 bx, .int .i64 b_] 23).alloc _).alloc _)
  have X2 : Bx ((((w.alloc (.cells #[.int .i64 ax, .int .i64 ay] 23)).alloc (.cells #[.int .i64 bx, .int .i64 b_] 23)).alloc (.cells #[.int .i64 cx, .int .i64 cy] 23)).alloc (.cells #[.int .i64 dx, .int .i64 dy] 23)) (w.heap.size + 1 + 1) #[.int .i64 cx, .int .i64 cy] 23 := by simpa using ((Bx.new ((w.alloc (.cells #[.int .i64 ax, .int .i64 ay] 23)).alloc (.cells #[.int .i64 bx, .int .i64 b_] 23)) #[.int .i64 cx, .int .i64 cy] 23).alloc _)
  have X3 : Bx ((((w.alloc (.cells #[.int .i64 ax, .int .i64 ay] 23)).alloc (.cells #[.int .i64 bx, .int .i64 b_] 23)).alloc (.cells #[.int .i64 cx, .int .i64 cy] 23)).alloc (.cells #[.int .i64 dx, .int .i64 dy] 23)) (w.heap.size + 1 + 1 + 1) #[.int .i64 dx, .int .i64 dy] 23 := by simpa using (Bx.new (((w.alloc (.cells #[.int .i64 ax, .int .i64 ay] 23)).alloc (.cells #[.int .i64 bx, .int .i64 b_] 23)).alloc (.cells #[.int .i64 cx, .int .i64 cy] 23)) #[.int .i64 dx, .int .i64 dy] 23)
  have FT_1 := Lib.hid (FT.out.below C (Nat.le_refl _))
  have HB1 := Lib.hid B
  have FP_1 := Lib.hid X0
  have FQ_1 := Lib.hid X1
  have FR_1 := Lib.hid X2
  have FV_1 := Lib.hid X3
  clear B C X0 X1 X2 X3 HB0 FT
  generalize ((((w.alloc (.cells #[.int .i64 ax, .int .i64 ay] 23)).alloc (.cells #[.int .i64 bx, .int .i64 b_] 23)).alloc (.cells #[.int .i64 cx, .int .i64 cy] 23)).alloc (.cells #[.int .i64 dx, .int .i64 dy] 23)) = w1 at *
  have RB1 := Lib.hid (below_drew0 w1)
  have QS1 := Lib.hid (show w1.cell? ⟨w.heap.size, 0, none⟩ = some (.int .i64 ax) ∧ w1.cell? ⟨w.heap.size, 1, none⟩ = some (.int .i64 ay) ∧ w1.cell? ⟨w.heap.size + 1, 0, none⟩ = some (.int .i64 bx) ∧ w1.cell? ⟨w.heap.size + 1, 1, none⟩ = some (.int .i64 b_) ∧ w1.cell? ⟨w.heap.size + 1 + 1, 0, none⟩ = some (.int .i64 cx) ∧ w1.cell? ⟨w.heap.size + 1 + 1, 1, none⟩ = some (.int .i64 cy) ∧ w1.cell? ⟨w.heap.size + 1 + 1 + 1, 0, none⟩ = some (.int .i64 dx) ∧ w1.cell? ⟨w.heap.size + 1 + 1 + 1, 1, none⟩ = some (.int .i64 dy) from ⟨FP_1.out.cell 0 (v := .int .i64 ax) rfl, FP_1.out.cell 1 (v := .int .i64 ay) rfl, FQ_1.out.cell 0 (v := .int .i64 bx) rfl, FQ_1.out.cell 1 (v := .int .i64 b_) rfl, FR_1.out.cell 0 (v := .int .i64 cx) rfl, FR_1.out.cell 1 (v := .int .i64 cy) rfl, FV_1.out.cell 0 (v := .int .i64 dx) rfl, FV_1.out.cell 1 (v := .int .i64 dy) rfl⟩)
  have QF1 := Lib.hid (show ∀ w', Below w1.heap.size w1 w' → w'.cell? ⟨w.heap.size, 0, none⟩ = some (.int .i64 ax) ∧ w'.cell? ⟨w.heap.size, 1, none⟩ = some (.int .i64 ay) ∧ w'.cell? ⟨w.heap.size + 1, 0, none⟩ = some (.int .i64 bx) ∧ w'.cell? ⟨w.heap.size + 1, 1, none⟩ = some (.int .i64 b_) ∧ w'.cell? ⟨w.heap.size + 1 + 1, 0, none⟩ = some (.int .i64 cx) ∧ w'.cell? ⟨w.heap.size + 1 + 1, 1, none⟩ = some (.int .i64 cy) ∧ w'.cell? ⟨w.heap.size + 1 + 1 + 1, 0, none⟩ = some (.int .i64 dx) ∧ w'.cell? ⟨w.heap.size + 1 + 1 + 1, 1, none⟩ = some (.int .i64 dy) from fun w' hb => ⟨(FP_1.out.below hb (Nat.le_refl _)).cell 0 (v := .int .i64 ax) rfl, (FP_1.out.below hb (Nat.le_refl _)).cell 1 (v := .int .i64 ay) rfl, (FQ_1.out.below hb (Nat.le_refl _)).cell 0 (v := .int .i64 bx) rfl, (FQ_1.out.below hb (Nat.le_refl _)).cell 1 (v := .int .i64 b_) rfl, (FR_1.out.below hb (Nat.le_refl _)).cell 0 (v := .int .i64 cx) rfl, (FR_1.out.below hb (Nat.le_refl _)).cell 1 (v := .int .i64 cy) rfl, (FV_1.out.below hb (Nat.le_refl _)).cell 0 (v := .int .i64 dx) rfl, (FV_1.out.below hb (Nat.le_refl _)).cell 1 (v := .int .i64 dy) rfl⟩)
  go_region_held3 (fun w' => w'.cell? ⟨w.heap.size, 0, none⟩ = some (.int .i64 ax) ∧ w'.cell? ⟨w.heap.size, 1, none⟩ = some (.int .i64 ay) ∧ w'.cell? ⟨w.heap.size + 1, 0, none⟩ = some (.int .i64 bx) ∧ w'.cell? ⟨w.heap.size + 1, 1, none⟩ = some (.int .i64 b_) ∧ w'.cell? ⟨w.heap.size + 1 + 1, 0, none⟩ = some (.int .i64 cx) ∧ w'.cell? ⟨w.heap.size + 1 + 1, 1, none⟩ = some (.int .i64 cy) ∧ w'.cell? ⟨w.heap.size + 1 + 1 + 1, 0, none⟩ = some (.int .i64 dx) ∧ w'.cell? ⟨w.heap.size + 1 + 1 + 1, 1, none⟩ = some (.int .i64 dy)) (first | with_reducible exact QF1.out _ RB3.out | with_reducible exact QF1.out _ RB2.out | with_reducible exact QS1.out | with_reducible exact QF1.out _ RB1.out) (first
      | (go_at_call 28; have := RB2; clear this; refine (orient_Sign _ _ _ _ _ _ ⟨hp.a, hp.b, hp.c, hp.d, hp.e, hp.f⟩ _ (FT_1.out.below RB2.out (Nat.le_refl _))).mono ?_; rintro e w3 ⟨rfl, B⟩; have RB3 := Lib.hid (RB2.out.trans (B.mono RB2.out.size)); clear B )
      | (go_at_call 144; have := RB1; clear this; refine (circle_Sign _ _ _ _ _ _ _ _ hp _ (FT_1.out.below RB1.out (Nat.le_refl _))).mono ?_; rintro e w2 ⟨rfl, B⟩; have RB2 := Lib.hid (RB1.out.trans (B.mono RB1.out.size)); clear B ))
  have FT_3 := Lib.hid (FT_1.out.below RB3.out (Nat.le_refl _))
  have FP_3 := Lib.hid (FP_1.out.below RB3.out (Nat.le_refl _))
  have FQ_3 := Lib.hid (FQ_1.out.below RB3.out (Nat.le_refl _))
  have FR_3 := Lib.hid (FR_1.out.below RB3.out (Nat.le_refl _))
  have FV_3 := Lib.hid (FV_1.out.below RB3.out (Nat.le_refl _))
  have HB3 := Lib.hid (HB1.out.trans (RB3.out.mono HB1.out.size))
  clear HB1 FT_1 FP_1 FQ_1 FR_1 FV_1
  go_wp2_with fail
  go_ret
  exact ⟨rfl, HB3.out⟩

end Go.Proofs.YtjdiilkljgljkaaGreatDoor
namespace Go.Proofs.YtjdiilkljgljkaaGreatDoor
set_option linter.unusedVariables false
set_option linter.unusedSimpArgs false
open Go.RowKit Wd

/-- the orientation of the edge from vertex i and a point -/
def edg (f g : Nat → Int) (n i : Nat) (x y : Int) : Int := det (f i) (g i) (f ((i + 1) % n)) (g ((i + 1) % n)) x y
def inP (n : Nat) : Prop := 3 ≤ n ∧ n ≤ 64
instance (n : Nat) : Decidable (inP n) := inferInstanceAs (Decidable (_ ∧ _))
def ori (f g : Nat → Int) (n : Nat) : Int := if inP n then sg (det (f 0) (g 0) (f 1) (g 1) (f 2) (g 2)) else 0
def allB (p : Nat → Bool) : Nat → Bool
  | 0 => true
  | k + 1 => allB p k && p k
def anyB (p : Nat → Bool) : Nat → Bool
  | 0 => false
  | k + 1 => anyB p k || p k
theorem allB_iff (p : Nat → Bool) : ∀ k, allB p k = true ↔ ∀ i, i < k → p i = true
  | 0 => by simp [allB]
  | k + 1 => by
    simp only [allB, Bool.and_eq_true, allB_iff p k]
    constructor
    · rintro ⟨h1, h2⟩ i hi
      rcases (by omega : i < k ∨ i = k) with h | rfl
      · exact h1 i h
      · exact h2
    · intro h; exact ⟨fun i hi => h i (by omega), h k (by omega)⟩
theorem anyB_iff (p : Nat → Bool) : ∀ k, anyB p k = true ↔ ∃ i, i < k ∧ p i = true
  | 0 => by simp [anyB]
  | k + 1 => by
    simp only [anyB, Bool.or_eq_true, anyB_iff p k]
    constructor
    · rintro (⟨i, h1, h2⟩ | h)
      · exact ⟨i, by omega, h2⟩
      · exact ⟨k, by omega, h⟩
    · rintro ⟨i, h1, h2⟩
      rcases (by omega : i < k ∨ i = k) with h | rfl
      · exact .inl ⟨i, h, h2⟩
      · exact .inr h2
theorem allB_congr {p q : Nat → Bool} {k : Nat} (h : ∀ i, i < k → p i = q i) : allB p k = allB q k := by
  rw [Bool.eq_iff_iff, allB_iff, allB_iff]
  exact ⟨fun a i hi => (h i hi) ▸ a i hi, fun a i hi => (h i hi) ▸ a i hi⟩
theorem anyB_congr {p q : Nat → Bool} {k : Nat} (h : ∀ i, i < k → p i = q i) : anyB p k = anyB q k := by
  rw [Bool.eq_iff_iff, anyB_iff, anyB_iff]
  exact ⟨fun ⟨i, h1, h2⟩ => ⟨i, h1, (h i h1) ▸ h2⟩, fun ⟨i, h1, h2⟩ => ⟨i, h1, (h i h1) ▸ h2⟩⟩
/-- vertex j is passed over at edge i -/
def skip (n i j : Nat) : Bool := decide (j = i) || decide (j = (i + 1) % n)
def okAt (f g : Nat → Int) (n : Nat) (s : Int) (i j : Nat) : Bool := skip n i j || decide (sg (edg f g n i (f j) (g j)) = s)
def validP (f g : Nat → Int) (n : Nat) : Bool := decide (inP n) && !decide (ori f g n = 0) && allB (fun i => allB (okAt f g n (ori f g n) i) n) n
/-- the side of the edge from vertex i -/
def sideP (f g : Nat → Int) (n : Nat) (x y : Int) (i : Nat) : Int := ori f g n * sg (edg f g n i x y)
def locP (f g : Nat → Int) (n : Nat) (x y : Int) : Int := if inP n then sgnM (anyB (fun i => decide (sideP f g n x y i < 0)) n) (anyB (fun i => decide (sideP f g n x y i = 0)) n) else -1
theorem sg_range (x : Int) : sg x = -1 ∨ sg x = 0 ∨ sg x = 1 := by
  unfold sg
  rcases (by omega : x < 0 ∨ x = 0 ∨ 0 < x) with h | rfl | h
  · exact .inl (Int.sign_eq_neg_one_of_neg h)
  · exact .inr (.inl rfl)
  · exact .inr (.inr (Int.sign_eq_one_of_pos h))
theorem ori_range (f g : Nat → Int) (n : Nat) : ori f g n = -1 ∨ ori f g n = 0 ∨ ori f g n = 1 := by
  unfold ori; split
  · exact sg_range _
  · exact .inr (.inl rfl)
theorem sideP_range (f g : Nat → Int) (n : Nat) (x y : Int) (i : Nat) : sideP f g n x y i = -1 ∨ sideP f g n x y i = 0 ∨ sideP f g n x y i = 1 := by
  unfold sideP
  rcases ori_range f g n with h | h | h <;> rcases sg_range (edg f g n i x y) with h2 | h2 | h2 <;> rw [h, h2] <;> decide
/-- the least of 1 and the first k sides -/
def minS (q : Nat → Int) : Nat → Int
  | 0 => 1
  | k + 1 => min (minS q k) (q k)
theorem minS_eq (q : Nat → Int) (hq : ∀ i, q i = -1 ∨ q i = 0 ∨ q i = 1) : ∀ k, minS q k = sgnM (anyB (fun i => decide (q i < 0)) k) (anyB (fun i => decide (q i = 0)) k)
  | 0 => rfl
  | k + 1 => by
    rw [minS, minS_eq q hq k]
    simp only [anyB]
    cases anyB (fun i => decide (q i < 0)) k <;> cases anyB (fun i => decide (q i = 0)) k <;> rcases hq k with h | h | h <;> rw [h] <;> decide
theorem ori_in {f g : Nat → Int} {n : Nat} (h : inP n) : ori f g n = sg (det (f 0) (g 0) (f 1) (g 1) (f 2) (g 2)) := by unfold ori; rw [if_pos h]
theorem ori_out {f g : Nat → Int} {n : Nat} (h : ¬ inP n) : ori f g n = 0 := by unfold ori; rw [if_neg h]
theorem validP_out {f g : Nat → Int} {n : Nat} (h : ¬ inP n) : validP f g n = false := by unfold validP; simp [h]
theorem locP_out {f g : Nat → Int} {n : Nat} {x y : Int} (h : ¬ inP n) : locP f g n x y = -1 := by unfold locP; rw [if_neg h]
theorem locP_in {f g : Nat → Int} {n : Nat} {x y : Int} (h : inP n) : locP f g n x y = minS (sideP f g n x y) n := by
  unfold locP; rw [if_pos h, minS_eq _ (sideP_range f g n x y)]
/-- validity, said in words -/
theorem validP_iff {f g : Nat → Int} {n : Nat} : validP f g n = true ↔ inP n ∧ ori f g n ≠ 0 ∧ ∀ i j, i < n → j < n → j ≠ i → j ≠ (i + 1) % n → sg (edg f g n i (f j) (g j)) = ori f g n := by
  unfold validP
  simp only [Bool.and_eq_true, decide_eq_true_eq, Bool.not_eq_true', decide_eq_false_iff_not, allB_iff, okAt, skip, Bool.or_eq_true]
  constructor
  · rintro ⟨⟨h1, h2⟩, h3⟩
    refine ⟨h1, h2, fun i j hi hj h4 h5 => ?_⟩
    rcases h3 i hi j hj with (h | h) | h
    · exact absurd h h4
    · exact absurd h h5
    · exact h
  · rintro ⟨h1, h2, h3⟩
    refine ⟨⟨h1, h2⟩, fun i hi j hj => ?_⟩
    by_cases h4 : j = i
    · exact .inl (.inl h4)
    · by_cases h5 : j = (i + 1) % n
      · exact .inl (.inr h5)
      · exact .inr (h3 i j hi hj h4 h5)
end Go.Proofs.YtjdiilkljgljkaaGreatDoor
