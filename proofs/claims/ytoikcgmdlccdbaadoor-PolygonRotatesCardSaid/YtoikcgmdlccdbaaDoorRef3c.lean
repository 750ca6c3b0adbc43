/- Contracts of the reference's signed sums (geofenceref03.Neg, Add, Sub). -/
import Derived.Test.YtoikcgmdlccdbaaDoorRef3b
import Derived.Deep.RegionHeld3
namespace Go.Proofs.YtoikcgmdlccdbaaDoor
set_option linter.unusedVariables false
set_option linter.unusedSimpArgs false
open Go.RowKit

/-- the value of a number: its sign and its digits -/
def numV (x : Int) (A : Option Addr) (n c : Nat) : Value := .agg #[.int .i64 (sg x), .slice A n c]
theorem sign_range (x : Int) : -1 ≤ (sg x) ∧ (sg x) ≤ 1 := by
  unfold sg
  rcases (by omega : x < 0 ∨ x = 0 ∨ 0 < x) with h | h | h
  · rw [Int.sign_eq_neg_one_of_neg h]; omega
  · subst h; simp
  · rw [Int.sign_eq_one_of_pos h]; omega
theorem nm_neg {w : World} {A : Option Addr} {n c : Nat} {x : Int} (h : Nm w A n c x) : Nm w A n c (-x) := by unfold Nm at *; rw [Int.natAbs_neg]; exact h

theorem ref3_Neg (A : Option Addr) (n c : Nat) (x : Int) (w : World) (ha : Nm w A n c x) :
    Calls Tryd.prog 103 #[.agg #[.int .i64 (sg x), .slice A n c]] w fun e w' => e = .returned (.agg #[.int .i64 (sg (-x)), .slice A n c]) ∧ Below w.heap.size w w' := by
  have hr := sign_range x
  have e1 : (sg (-x)) = -(sg x) := by unfold sg; rw [Int.sign_neg]
  rw [e1]
  clear ha e1
  go_enter Tryd.func103, Tryd.ntmps103
  go_wp2_with fail
  refine bodyPost_ret (v := .agg #[.int .i64 (-(sg x)), .slice A n c]) (by simp [results, Tryd.results103, go_sem]) rfl ⟨rfl, ?_⟩
  exact ((Below.refl w.heap.size w).alloc (Nat.le_refl _) _).alloc (by simp) _

/-- two numbers in boxes of their own, and a box for the result -/
structure Box (w : World) (B : Nat) (a0 a1 b0 b1 : Value) : Prop where
  c0 : w.cell? ⟨B, 0, none⟩ = some a0
  c1 : w.cell? ⟨B, 1, none⟩ = some a1
  d0 : w.cell? ⟨B + 1, 0, none⟩ = some b0
  d1 : w.cell? ⟨B + 1, 1, none⟩ = some b1
  r : w.heap[B + 1 + 1]? = some (.cells #[.int .i64 0, .slice none 0 0] 97 (0, 0))
theorem Box.lt {w : World} {B : Nat} {a0 a1 b0 b1 : Value} (h : Box w B a0 a1 b0 b1) : B + 2 < w.heap.size := by
  rcases Nat.lt_or_ge (B + 2) w.heap.size with h1 | h1
  · exact h1
  · have := h.r; rw [Array.getElem?_eq_none (show _ ≤ B + 1 + 1 from h1)] at this; cases this
theorem Box.below {w w' : World} {B C : Nat} {a0 a1 b0 b1 : Value} (h : Box w B a0 a1 b0 b1) (hb : Below C w w') (hC : w.heap.size ≤ C) : Box w' B a0 a1 b0 b1 := by
  have hlt := h.lt
  exact ⟨(hb.cell (p := ⟨B, 0, none⟩) (by show B < C; omega)).trans h.c0, (hb.cell (p := ⟨B, 1, none⟩) (by show B < C; omega)).trans h.c1, (hb.cell (p := ⟨B + 1, 0, none⟩) (by show B + 1 < C; omega)).trans h.d0, (hb.cell (p := ⟨B + 1, 1, none⟩) (by show B + 1 < C; omega)).trans h.d1, (hb.block (B + 2) (by omega)).trans h.r⟩
theorem Box.drew {w : World} {B : Nat} {a0 a1 b0 b1 : Value} (h : Box w B a0 a1 b0 b1) : Box w.drew B a0 a1 b0 b1 := ⟨h.c0, h.c1, h.d0, h.d1, h.r⟩
theorem Box.cell {w : World} {B : Nat} {a0 a1 b0 b1 : Value} (h : Box w B a0 a1 b0 b1) (i : Nat) : w.cell? ⟨B + 1 + 1, i, none⟩ = (#[Value.int .i64 0, Value.slice none 0 0])[i]? := by simp [World.cell?, h.r]
theorem Box.free {w : World} {B : Nat} {a0 a1 b0 b1 : Value} (h : Box w B a0 a1 b0 b1) (i : Nat) : w.frozen? ⟨B + 1 + 1, i, none⟩ = false := by simp [World.frozen?, h.r]
theorem Box.new (w : World) (a0 a1 b0 b1 : Value) : Box (((w.alloc (.cells #[a0, a1] 97)).alloc (.cells #[b0, b1] 97)).alloc (.cells #[.int .i64 0, .slice none 0 0] 97)) w.heap.size a0 a1 b0 b1 := by
  refine ⟨by simp [go_sem], by simp [go_sem], by simp [go_sem], by simp [go_sem], ?_⟩
  have h := heap_alloc_new ((w.alloc (.cells #[a0, a1] 97)).alloc (.cells #[b0, b1] 97)) (.cells #[.int .i64 0, .slice none 0 0] 97)
  simpa using h
theorem set2_cell {w : World} {B b o : Nat} {u v0 v1 : Value} (h : w.cell? ⟨b, o, none⟩ = some u) (hb : b ≠ B) : ((w.setCell ⟨B, 0, none⟩ v0).setCell ⟨B, 1, none⟩ v1).cell? ⟨b, o, none⟩ = some u := by
  rw [World.cell?_setCell_other _ _ _ _ (by intro e; injection e with e1; exact hb e1.symm), World.cell?_setCell_other _ _ _ _ (by intro e; injection e with e1; exact hb e1.symm)]; exact h
theorem nm_draw {w : World} {A : Option Addr} {n c : Nat} {x : Int} (h : Nm w A n c x) : Nm w.drew A n c x := ⟨h.1.drew, h.2.1, h.2.2⟩
theorem Box.set2 {w : World} {B n c : Nat} {a0 a1 b0 b1 v0 v1 : Value} {A : Option Addr} {x : Int} (h : Box w B a0 a1 b0 b1) (hn : Nm w A n c x) : Nm ((w.setCell ⟨B + 1 + 1, 0, none⟩ v0).setCell ⟨B + 1 + 1, 1, none⟩ v1) A n c x :=
  (hn.set_ h.r (by decide)).set_ (heap_setCell_same w (B + 1 + 1) 0 _ _ v0 h.r) (by decide)

theorem add_same {x y : Int} (h0 : x ≠ 0) (h1 : y ≠ 0) (h : (sg x) = (sg y)) : (((x + y).natAbs : Nat) : Int) = (x.natAbs : Int) + y.natAbs ∧ (sg x) = (sg (x + y)) := by
  unfold sg at *
  rcases (by omega : 0 < x ∨ x < 0) with hx | hx
  · rw [Int.sign_eq_one_of_pos hx] at h
    have hy : 0 < y := Int.sign_eq_one_iff_pos.1 h.symm
    rw [Int.sign_eq_one_of_pos hx, Int.sign_eq_one_of_pos (by omega)]; omega
  · rw [Int.sign_eq_neg_one_of_neg hx] at h
    have hy : y < 0 := Int.sign_eq_neg_one_iff_neg.1 h.symm
    rw [Int.sign_eq_neg_one_of_neg hx, Int.sign_eq_neg_one_of_neg (by omega)]; omega

theorem add_diff {x y : Int} (h0 : x ≠ 0) (h1 : y ≠ 0) (h : (sg x) ≠ (sg y)) (hle : (y.natAbs : Int) ≤ x.natAbs) : (((x + y).natAbs : Nat) : Int) = (x.natAbs : Int) - y.natAbs ∧ (x + y ≠ 0 → (sg x) = (sg (x + y))) := by
  unfold sg at *
  rcases (by omega : 0 < x ∨ x < 0) with hx | hx
  · have hy : y < 0 := by
      rcases (by omega : 0 < y ∨ y < 0) with hy | hy
      · rw [Int.sign_eq_one_of_pos hx, Int.sign_eq_one_of_pos hy] at h; exact absurd rfl h
      · exact hy
    refine ⟨by omega, fun hne => ?_⟩
    rw [Int.sign_eq_one_of_pos hx, Int.sign_eq_one_of_pos (by omega)]
  · have hy : 0 < y := by
      rcases (by omega : 0 < y ∨ y < 0) with hy | hy
      · exact hy
      · rw [Int.sign_eq_neg_one_of_neg hx, Int.sign_eq_neg_one_of_neg hy] at h; exact absurd rfl h
    refine ⟨by omega, fun hne => ?_⟩
    rw [Int.sign_eq_neg_one_of_neg hx, Int.sign_eq_neg_one_of_neg (by omega)]
theorem cmp_ge {p q : Int} (h : q ≤ p) : 0 ≤ cmpI p q := by
  rcases (by omega : q = p ∨ q < p) with h1 | h1
  · subst h1; simp [cmpI]
  · rw [cmp_gt h1]; omega

set_option maxHeartbeats 2000000 in
theorem ref3_Add (A A' : Option Addr) (n c m c' : Nat) (x y : Int) (w : World) (ha : Nm w A n c x) (hb : Nm w A' m c' y) (hn : n ≤ 99999) (hm : m ≤ 99999) :
    Calls Tryd.prog 87 #[.agg #[.int .i64 (sg x), .slice A n c], .agg #[.int .i64 (sg y), .slice A' m c']] w fun e w' => (∃ A2 k c2, e = .returned (.agg #[.int .i64 (sg (x + y)), .slice A2 k c2]) ∧ k ≤ max n m + 1 ∧ Nm w' A2 k c2 (x + y)) ∧ Below w.heap.size w w' := by
  have hrx := sign_range x; have hry := sign_range y
  have HA := Lib.hid ha; have HB := Lib.hid hb
  have hb3 : ∀ (o1 o2 o3 : Obj), Below w.heap.size w (((w.alloc o1).alloc o2).alloc o3) := fun o1 o2 o3 => (((Below.refl w.heap.size w).alloc (Nat.le_refl _) _).alloc (by simp) _).alloc (by simp; omega) _
  have HB3 := Lib.hid hb3
  clear ha hb hb3
  by_cases h0 : x = 0
  · subst h0
    have hz : (sg 0 == 0) = true := rfl
    go_enter Tryd.func87, Tryd.ntmps87
    go_wp2_with fail
    refine bodyPost_ret (v := .agg #[.int .i64 (sg y), .slice A' m c']) (by simp [results, Tryd.results87, go_sem]) rfl ⟨⟨A', m, c', by rw [Int.zero_add], by omega, ?_⟩, HB3.out _ _ _⟩
    rw [Int.zero_add]; exact HB.out.below (HB3.out _ _ _) (Nat.le_refl _)
  · have hs0 : ((sg x) == 0) = false := by simp [sg]; exact h0
    by_cases h1 : y = 0
    · subst h1
      have hz : (sg 0 == 0) = true := rfl
      go_enter Tryd.func87, Tryd.ntmps87
      go_wp2_with fail
      refine bodyPost_ret (v := .agg #[.int .i64 (sg x), .slice A n c]) (by simp [results, Tryd.results87, go_sem]) rfl ⟨⟨A, n, c, by rw [Int.add_zero], by omega, ?_⟩, HB3.out _ _ _⟩
      rw [Int.add_zero]; exact HA.out.below (HB3.out _ _ _) (Nat.le_refl _)
    · have hs1 : ((sg y) == 0) = false := by simp [sg]; exact h1
      by_cases h2 : (sg x) = (sg y)
      · have hs2 : ((sg x) == (sg y)) = true := by simp [h2]
        have hsm := add_same h0 h1 h2
        have HSM := Lib.hid hsm
        clear h2 hsm
        go_enter Tryd.func87, Tryd.ntmps87
        go_wp2_with fail
        have bx := Box.new w (.int .i64 (sg x)) (.slice A n c) (.int .i64 (sg y)) (.slice A' m c')
        have hbw := HB3.out (.cells #[.int .i64 (sg x), .slice A n c] 97) (.cells #[.int .i64 (sg y), .slice A' m c'] 97) (.cells #[.int .i64 0, .slice none 0 0] 97)
        generalize (((w.alloc (.cells #[.int .i64 (sg x), .slice A n c] 97)).alloc (.cells #[.int .i64 (sg y), .slice A' m c'] 97)).alloc (.cells #[.int .i64 0, .slice none 0 0] 97)) = w3 at *
        have BX := Lib.hid bx; have BW := Lib.hid hbw
        have NA := Lib.hid (HA.out.below hbw (Nat.le_refl _)); have NB := Lib.hid (HB.out.below hbw (Nat.le_refl _))
        clear bx hbw hs0 hs1 hs2
        go_region_held3 (fun w' => w'.cell? ⟨w.heap.size, 0, none⟩ = some (.int .i64 (sg x)) ∧ w'.cell? ⟨w.heap.size, 1, none⟩ = some (.slice A n c) ∧ w'.cell? ⟨w.heap.size + 1, 1, none⟩ = some (.slice A' m c')) (first | exact ⟨BX.out.c0, BX.out.c1, BX.out.d1⟩ | exact ⟨B5.out.c0, B5.out.c1, B5.out.d1⟩ | exact ⟨B6.out.c0, B6.out.c1, B6.out.d1⟩ | exact ⟨set2_cell B6.out.c0 (by omega), set2_cell B6.out.c1 (by omega), set2_cell B6.out.d1 (by omega)⟩) (first | (go_at_call 100; refine (ref3_addDigits A A' n c m c' x.natAbs y.natAbs _ (by first | exact NA.out.1 | exact NA.out.1.drew) NA.out.2.1.1 (by first | exact NB.out.1 | exact NB.out.1.drew) NB.out.2.1.1 (by omega) (by omega)).mono ?_; rintro e w5 ⟨⟨A2, k, c2, rfl, hk, hs5, hf5, ht5⟩, hb5⟩; have B5 := Lib.hid (Box.below (by first | exact BX.out | exact BX.out.drew) hb5 (Nat.le_refl _)); have S5 := Lib.hid hs5; have F5 := Lib.hid hf5; have D5 := Lib.hid hb5; have T5 := Lib.hid ht5; clear hs5 hf5 hb5 ht5) | (go_at_call 99; refine (ref3_make16 (sg x) A2 k c2 _ (x + y) _ (by first | exact S5.out | exact S5.out.drew) F5.out HSM.out.1 (fun _ => HSM.out.2) (by first | exact T5.out | exact Ty.below T5.out (Below.refl _ _).drew (Nat.le_refl _))).mono ?_; rintro e w6 ⟨⟨A3, k3, c3, rfl, hk3, hnm6⟩, hb6⟩; have B6 := Lib.hid (Box.below (by first | exact B5.out | exact B5.out.drew) hb6 (Nat.le_refl _)); have N6 := Lib.hid hnm6; have D6 := Lib.hid hb6; clear hnm6 hb6; have q0 := B6.out.cell 0; have q1 := B6.out.cell 1; have q2 := B6.out.free 0; have q3 := B6.out.free 1))
        go_wp2_with fail
        have hbf := ((BW.out.drew.trans (Below.mono (B' := w.heap.size) D5.out BW.out.size)).trans (D6.out.mono (Nat.le_trans BW.out.size D5.out.size)))
        refine bodyPost_ret (v := .agg #[.int .i64 (sg (x + y)), .slice A3 k3 c3]) (by simp [results, Tryd.results87, go_sem, q0, q1]) rfl ⟨⟨A3, k3, c3, rfl, by omega, B6.out.set2 N6.out⟩, ?_⟩
        exact (hbf.setCell (p := ⟨w.heap.size + 1 + 1, 0, none⟩) (by simp; omega) _).setCell (p := ⟨w.heap.size + 1 + 1, 1, none⟩) (by simp; omega) _
      · have hs2 : ((sg x) == (sg y)) = false := by simpa using h2
        have HD := Lib.hid h2
        clear h2
        go_enter Tryd.func87, Tryd.ntmps87
        go_wp2_with fail
        have bx := Box.new w (.int .i64 (sg x)) (.slice A n c) (.int .i64 (sg y)) (.slice A' m c')
        have hbw := HB3.out (.cells #[.int .i64 (sg x), .slice A n c] 97) (.cells #[.int .i64 (sg y), .slice A' m c'] 97) (.cells #[.int .i64 0, .slice none 0 0] 97)
        generalize (((w.alloc (.cells #[.int .i64 (sg x), .slice A n c] 97)).alloc (.cells #[.int .i64 (sg y), .slice A' m c'] 97)).alloc (.cells #[.int .i64 0, .slice none 0 0] 97)) = w3 at *
        have BX := Lib.hid bx; have BW := Lib.hid hbw
        have NA := Lib.hid (HA.out.below hbw (Nat.le_refl _)); have NB := Lib.hid (HB.out.below hbw (Nat.le_refl _))
        clear bx hbw hs0 hs1
        refine (ref3_compareDigits A A' n c m c' _ _ _ NA.out.1 NA.out.2.1 NB.out.1 NB.out.2.1).mono ?_
        rintro e w4 ⟨rfl, nq, rfl⟩
        obtain ⟨w4, hw4⟩ : ∃ w4, w4 = w3.drewN nq := ⟨_, rfl⟩
        have hdr : Below w3.heap.size w3 w4 := by rw [hw4]; exact ⟨rfl, rfl, rfl, Nat.le_refl _, fun _ _ => rfl⟩
        rw [← hw4]
        clear hw4
        have BX := Lib.hid (BX.out.below hdr (Nat.le_refl _)); have NA := Lib.hid (NA.out.below hdr (Nat.le_refl _)); have NB := Lib.hid (NB.out.below hdr (Nat.le_refl _)); have BW := Lib.hid (BW.out.trans (hdr.mono BW.out.size))
        clear hdr
        by_cases hle : (y.natAbs : Int) ≤ x.natAbs
        · have hcm := cmp_ge hle
          have HSM := Lib.hid (add_diff h0 h1 HD.out hle)
          have HLE := Lib.hid hle
          clear hle
          go_wp2_with fail
          go_region_held3 (fun w' => w'.cell? ⟨w.heap.size, 0, none⟩ = some (.int .i64 (sg x)) ∧ w'.cell? ⟨w.heap.size, 1, none⟩ = some (.slice A n c) ∧ w'.cell? ⟨w.heap.size + 1, 1, none⟩ = some (.slice A' m c')) (first | exact ⟨BX.out.c0, BX.out.c1, BX.out.d1⟩ | exact ⟨B5.out.c0, B5.out.c1, B5.out.d1⟩ | exact ⟨B6.out.c0, B6.out.c1, B6.out.d1⟩ | exact ⟨set2_cell B6.out.c0 (by omega), set2_cell B6.out.c1 (by omega), set2_cell B6.out.d1 (by omega)⟩) (first | (go_at_call 102; refine (ref3_subDigits A A' n c m c' x.natAbs y.natAbs _ (by first | exact NA.out.1 | exact NA.out.1.drew) NA.out.2.1.1 (by first | exact NB.out.1 | exact NB.out.1.drew) NB.out.2.1.1 (by omega) (by omega) HLE.out).mono ?_; rintro e w5 ⟨⟨A2, c2, rfl, hs5, hf5, ht5⟩, hb5⟩; have B5 := Lib.hid (Box.below (by first | exact BX.out | exact BX.out.drew) hb5 (Nat.le_refl _)); have S5 := Lib.hid hs5; have F5 := Lib.hid hf5; have D5 := Lib.hid hb5; have T5 := Lib.hid ht5; clear hs5 hf5 hb5 ht5) | (go_at_call 99; refine (ref3_make16 (sg x) A2 n c2 _ (x + y) _ (by first | exact S5.out | exact S5.out.drew) F5.out HSM.out.1 HSM.out.2 (by first | exact T5.out | exact Ty.below T5.out (Below.refl _ _).drew (Nat.le_refl _))).mono ?_; rintro e w6 ⟨⟨A3, k3, c3, rfl, hk3, hnm6⟩, hb6⟩; have B6 := Lib.hid (Box.below (by first | exact B5.out | exact B5.out.drew) hb6 (Nat.le_refl _)); have N6 := Lib.hid hnm6; have D6 := Lib.hid hb6; clear hnm6 hb6; have q0 := B6.out.cell 0; have q1 := B6.out.cell 1; have q2 := B6.out.free 0; have q3 := B6.out.free 1))
          go_wp2_with fail
          have hbf := ((BW.out.drew.trans (Below.mono (B' := w.heap.size) D5.out BW.out.size)).trans (D6.out.mono (Nat.le_trans BW.out.size D5.out.size)))
          refine bodyPost_ret (v := .agg #[.int .i64 (sg (x + y)), .slice A3 k3 c3]) (by simp [results, Tryd.results87, go_sem, q0, q1]) rfl ⟨⟨A3, k3, c3, rfl, by omega, B6.out.set2 N6.out⟩, ?_⟩
          exact (hbf.setCell (p := ⟨w.heap.size + 1 + 1, 0, none⟩) (by simp; omega) _).setCell (p := ⟨w.heap.size + 1 + 1, 1, none⟩) (by simp; omega) _
        · have hcm : cmpI x.natAbs y.natAbs < 0 := by rw [cmp_lt (by omega)]; omega
          have hle' : (x.natAbs : Int) ≤ y.natAbs := by omega
          have hsm := add_diff h1 h0 (fun e => HD.out e.symm) hle'
          rw [Int.add_comm y x] at hsm
          have HSM := Lib.hid hsm
          have HLE := Lib.hid hle'
          clear hle hle' hsm
          go_wp2_with fail
          go_region_held3 (fun w' => w'.cell? ⟨w.heap.size + 1, 0, none⟩ = some (.int .i64 (sg y)) ∧ w'.cell? ⟨w.heap.size + 1, 1, none⟩ = some (.slice A' m c') ∧ w'.cell? ⟨w.heap.size, 1, none⟩ = some (.slice A n c)) (first | exact ⟨BX.out.d0, BX.out.d1, BX.out.c1⟩ | exact ⟨B5.out.d0, B5.out.d1, B5.out.c1⟩ | exact ⟨B6.out.d0, B6.out.d1, B6.out.c1⟩ | exact ⟨set2_cell B6.out.d0 (by omega), set2_cell B6.out.d1 (by omega), set2_cell B6.out.c1 (by omega)⟩) (first | (go_at_call 102; refine (ref3_subDigits A' A m c' n c y.natAbs x.natAbs _ (by first | exact NB.out.1 | exact NB.out.1.drew) NB.out.2.1.1 (by first | exact NA.out.1 | exact NA.out.1.drew) NA.out.2.1.1 (by omega) (by omega) HLE.out).mono ?_; rintro e w5 ⟨⟨A2, c2, rfl, hs5, hf5, ht5⟩, hb5⟩; have B5 := Lib.hid (Box.below (by first | exact BX.out | exact BX.out.drew) hb5 (Nat.le_refl _)); have S5 := Lib.hid hs5; have F5 := Lib.hid hf5; have D5 := Lib.hid hb5; have T5 := Lib.hid ht5; clear hs5 hf5 hb5 ht5) | (go_at_call 99; refine (ref3_make16 (sg y) A2 m c2 _ (x + y) _ (by first | exact S5.out | exact S5.out.drew) F5.out HSM.out.1 HSM.out.2 (by first | exact T5.out | exact Ty.below T5.out (Below.refl _ _).drew (Nat.le_refl _))).mono ?_; rintro e w6 ⟨⟨A3, k3, c3, rfl, hk3, hnm6⟩, hb6⟩; have B6 := Lib.hid (Box.below (by first | exact B5.out | exact B5.out.drew) hb6 (Nat.le_refl _)); have N6 := Lib.hid hnm6; have D6 := Lib.hid hb6; clear hnm6 hb6; have q0 := B6.out.cell 0; have q1 := B6.out.cell 1; have q2 := B6.out.free 0; have q3 := B6.out.free 1))
          go_wp2_with fail
          have hbf := ((BW.out.drew.trans (Below.mono (B' := w.heap.size) D5.out BW.out.size)).trans (D6.out.mono (Nat.le_trans BW.out.size D5.out.size)))
          refine bodyPost_ret (v := .agg #[.int .i64 (sg (x + y)), .slice A3 k3 c3]) (by simp [results, Tryd.results87, go_sem, q0, q1]) rfl ⟨⟨A3, k3, c3, rfl, by omega, B6.out.set2 N6.out⟩, ?_⟩
          exact (hbf.setCell (p := ⟨w.heap.size + 1 + 1, 0, none⟩) (by simp; omega) _).setCell (p := ⟨w.heap.size + 1 + 1, 1, none⟩) (by simp; omega) _

set_option maxHeartbeats 1000000 in
theorem ref3_Sub (A A' : Option Addr) (n c m c' : Nat) (x y : Int) (w : World) (ha : Nm w A n c x) (hb : Nm w A' m c' y) (hn : n ≤ 99999) (hm : m ≤ 99999) :
    Calls Tryd.prog 88 #[.agg #[.int .i64 (sg x), .slice A n c], .agg #[.int .i64 (sg y), .slice A' m c']] w fun e w' => (∃ A2 k c2, e = .returned (.agg #[.int .i64 (sg (x - y)), .slice A2 k c2]) ∧ k ≤ max n m + 1 ∧ Nm w' A2 k c2 (x - y)) ∧ Below w.heap.size w w' := by
  have hrx := sign_range x; have hry := sign_range y
  have HA := Lib.hid ha; have HB := Lib.hid hb
  have hb3 : ∀ (o1 o2 o3 : Obj), Below w.heap.size w (((w.alloc o1).alloc o2).alloc o3) := fun o1 o2 o3 => (((Below.refl w.heap.size w).alloc (Nat.le_refl _) _).alloc (by simp) _).alloc (by simp; omega) _
  have HB3 := Lib.hid hb3
  clear ha hb hb3
  go_enter Tryd.func88, Tryd.ntmps88
  go_wp2_with fail
  have bx := Box.new w (.int .i64 (sg x)) (.slice A n c) (.int .i64 (sg y)) (.slice A' m c')
  have hbw := HB3.out (.cells #[.int .i64 (sg x), .slice A n c] 97) (.cells #[.int .i64 (sg y), .slice A' m c'] 97) (.cells #[.int .i64 0, .slice none 0 0] 97)
  generalize (((w.alloc (.cells #[.int .i64 (sg x), .slice A n c] 97)).alloc (.cells #[.int .i64 (sg y), .slice A' m c'] 97)).alloc (.cells #[.int .i64 0, .slice none 0 0] 97)) = w3 at *
  have BX := Lib.hid bx; have BW := Lib.hid hbw
  have NA := Lib.hid (HA.out.below hbw (Nat.le_refl _)); have NB := Lib.hid (HB.out.below hbw (Nat.le_refl _))
  clear bx hbw
  go_region_held3 (fun w' => w'.cell? ⟨w.heap.size, 0, none⟩ = some (.int .i64 (sg x)) ∧ w'.cell? ⟨w.heap.size, 1, none⟩ = some (.slice A n c) ∧ w'.cell? ⟨w.heap.size + 1, 0, none⟩ = some (.int .i64 (sg y)) ∧ w'.cell? ⟨w.heap.size + 1, 1, none⟩ = some (.slice A' m c')) (first | exact ⟨BX.out.c0, BX.out.c1, BX.out.d0, BX.out.d1⟩ | exact ⟨B5.out.c0, B5.out.c1, B5.out.d0, B5.out.d1⟩ | exact ⟨B6.out.c0, B6.out.c1, B6.out.d0, B6.out.d1⟩ | exact ⟨set2_cell B6.out.c0 (by omega), set2_cell B6.out.c1 (by omega), set2_cell B6.out.d0 (by omega), set2_cell B6.out.d1 (by omega)⟩) (first | (go_at_call 103; refine (ref3_Neg A' m c' y _ (by first | exact NB.out | exact nm_draw NB.out)).mono ?_; rintro e w5 ⟨rfl, hb5⟩; have B5 := Lib.hid (Box.below (by first | exact BX.out | exact BX.out.drew) hb5 (Nat.le_refl _)); have NA5 := Lib.hid (Nm.below (by first | exact NA.out | exact nm_draw NA.out) hb5 (Nat.le_refl _)); have NB5 := Lib.hid (Nm.below (nm_neg (by first | exact NB.out | exact nm_draw NB.out)) hb5 (Nat.le_refl _)); have D5 := Lib.hid hb5; clear hb5) | (go_at_call 87; refine (ref3_Add A A' n c m c' x (-y) _ (by first | exact NA5.out | exact nm_draw NA5.out) (by first | exact NB5.out | exact nm_draw NB5.out) hn hm).mono ?_; rintro e w6 ⟨⟨A3, k3, c3, rfl, hk3, hnm6⟩, hb6⟩; have B6 := Lib.hid (Box.below (by first | exact B5.out | exact B5.out.drew) hb6 (Nat.le_refl _)); have N6 := Lib.hid hnm6; have D6 := Lib.hid hb6; clear hnm6 hb6; have q0 := B6.out.cell 0; have q1 := B6.out.cell 1; have q2 := B6.out.free 0; have q3 := B6.out.free 1))
  go_wp2_with fail
  have hbf := ((BW.out.drew.trans (Below.mono (B' := w.heap.size) D5.out BW.out.size)).trans (D6.out.mono (Nat.le_trans BW.out.size D5.out.size)))
  refine bodyPost_ret (v := .agg #[.int .i64 (sg (x + -y)), .slice A3 k3 c3]) (by simp [results, Tryd.results88, go_sem, q0, q1]) rfl ⟨⟨A3, k3, c3, rfl, by omega, B6.out.set2 N6.out⟩, ?_⟩
  exact (hbf.setCell (p := ⟨w.heap.size + 1 + 1, 0, none⟩) (by simp; omega) _).setCell (p := ⟨w.heap.size + 1 + 1, 1, none⟩) (by simp; omega) _
end Go.Proofs.YtoikcgmdlccdbaaDoor
