/- DiscRadius: for every input the law returns true, and each argument reads afterwards as it read before; the package variable that the row lists holds what it lists. -/
import Derived.Test.YtoikcgmdlccdbaaDoorCards
import Derived.Test.YtoikcgmdlccdbaaDoorTie
import Derived.Test.YtoikcgmdlccdbaaDoorLaw15
import Derived.Test.YtoikcgmdlccdbaaDoorPts
import Derived.Test.YtoikcgmdlccdbaaDoorMain
import Derived.Test.YtoikcgmdlccdbaaDoorOpenPt
import Derived.WalkKit
import Derived.ProofKit
import Derived.OpenShut
import Derived.Below
import Derived.Deep.DeepHandedRow
import Derived.Lib.LaidTab
namespace Go.Proofs.YtoikcgmdlccdbaaDoor.discRadius
open Go.ChangeShapes Go.WideShapes Go.ChangeAt Go.RowKit Wd
set_option linter.unusedVariables false
set_option linter.unusedSimpArgs false

theorem own : ownKnob Tryd.prog.godebug = none := by kernel_rfl
theorem laidOut : laidOutB Tryd.prog = true := by kernel_rfl

theorem u16_of_wf {a : Int} (h : (Lit.int .u16 a).wf = true) : 0 ≤ a ∧ a ≤ 65535 := by
  have hmin : IntKind.u16.min = 0 := rfl
  have hmax : IntKind.u16.max = 65535 := rfl
  simp only [Lit.wf, Bool.and_eq_true, decide_eq_true_eq] at h
  omega
theorem rad_det (X Y N : Int) : det (X + 5 * N) Y (X - 3 * N) (Y + 4 * N) X (Y - 5 * N) = 60 * (N * N) := by unfold det; grind
theorem rad_circ (X Y N U V : Int) : circ (X + 5 * N) Y (X - 3 * N) (Y + 4 * N) X (Y - 5 * N) (X + U) (Y + V) = (60 * (N * N)) * (25 * N * N - U * U - V * V) := by unfold circ nrm mnr; grind
theorem sg_pos {x : Int} (h : 0 < x) : sg x = 1 := by unfold sg; exact Int.sign_eq_one_of_pos h
theorem rad_pos {N : Int} (h : 1 ≤ N) : 0 < 60 * (N * N) := by have := Int.mul_pos (show 0 < N by omega) (show 0 < N by omega); omega
theorem rad_val {X Y N : Int} (h : 1 ≤ N) : msk (!decide (det (X + 5 * N) Y (X - 3 * N) (Y + 4 * N) X (Y - 5 * N) = 0)) = 18446744073709551615 := by
  have := rad_pos h
  rw [rad_det, show decide (60 * (N * N) = 0) = false from by simp; omega]; rfl
theorem rad_loc {X Y N U V D : Int} (h : 1 ≤ N) (hd : U * U + V * V - 25 * N * N = D) : sg (circ (X + 5 * N) Y (X - 3 * N) (Y + 4 * N) X (Y - 5 * N) (X + U) (Y + V)) * sg (det (X + 5 * N) Y (X - 3 * N) (Y + 4 * N) X (Y - 5 * N)) = -(sg D) := by
  have hp := rad_pos h
  rw [rad_det, rad_circ, sg_pos hp, Int.mul_one, show 25 * N * N - U * U - V * V = -D from by omega]
  unfold sg
  rw [Int.sign_mul, Int.sign_eq_one_of_pos hp, Int.one_mul, Int.sign_neg]
theorem sq_bd {x n : Int} (h : -n ≤ x ∧ x ≤ n) : 0 ≤ x * x ∧ x * x ≤ n * n := by
  have h1 := abs_mul_le h h
  refine ⟨?_, h1.2⟩
  rcases Int.le_total 0 x with h | h
  · exact Int.mul_nonneg h h
  · exact Int.mul_nonneg_of_nonpos_of_nonpos h h
theorem tdiv4_bd {x : Int} (h : IsI x) : -2305843009213693952 ≤ x.tdiv 4 ∧ x.tdiv 4 ≤ 2305843009213693952 ∧ IntKind.i64.wrap (x.tdiv 4) = x.tdiv 4 := by
  unfold IsI at h
  have e : -2305843009213693952 ≤ x.tdiv 4 ∧ x.tdiv 4 ≤ 2305843009213693952 := by
    rw [tdiv_eq_if]; split <;> omega
  refine ⟨e.1, e.2, ?_⟩
  rw [IntKind.wrap_i64]; omega
theorem tmod_bd {x : Int} (h : (Lit.int .i32 x).wf = true) : -999999 ≤ x.tmod 1000000 ∧ x.tmod 1000000 ≤ 999999 ∧ IntKind.i32.wrap (x.tmod 1000000) = x.tmod 1000000 ∧ IntKind.i64.wrap (x.tmod 1000000) = x.tmod 1000000 := by
  have e : -999999 ≤ x.tmod 1000000 ∧ x.tmod 1000000 ≤ 999999 := by
    rw [tmod_eq_if]; split <;> omega
  refine ⟨e.1, e.2, ?_, ?_⟩
  · rw [IntKind.wrap_i32]; omega
  · rw [IntKind.wrap_i64]; omega
set_option maxHeartbeats 4000000 in
theorem walk {w : World} (a0 b0 : Int) (w0 : (Lit.int .i64 a0).wf = true) (x0 : (Lit.int .i64 b0).wf = true) (a1 : Int) (w1 : (Lit.int .u16 a1).wf = true) (a2 b2 : Int) (w2 : (Lit.int .i32 a2).wf = true) (x2 : (Lit.int .i32 b2).wf = true) (hT : TabM w) :
    Calls Tryd.prog 13 #[.agg #[.int .i64 a0, .int .i64 b0], .int .u16 a1, .agg #[.int .i32 a2, .int .i32 b2]] w fun e w' => e = .returned (.bool true) ∧ Below w.heap.size w w' := by
  have HB0 := Lib.hid (Below.refl w.heap.size w)
  have ia0 := isI_of_wf w0
  have ib0 := isI_of_wf x0
  have FT := Lib.hid hT; clear hT
  have hk : 0 ≤ a1 ∧ a1 ≤ 65535 := u16_of_wf w1
  obtain ⟨X, hX⟩ : ∃ X, X = a0.tdiv 4 := ⟨_, rfl⟩
  obtain ⟨Y, hY⟩ : ∃ Y, Y = b0.tdiv 4 := ⟨_, rfl⟩
  obtain ⟨N, hN⟩ : ∃ N, N = a1 + 1 := ⟨_, rfl⟩
  obtain ⟨U, hU⟩ : ∃ U, U = a2.tmod 1000000 := ⟨_, rfl⟩
  obtain ⟨V, hV⟩ : ∃ V, V = b2.tmod 1000000 := ⟨_, rfl⟩
  have hx := tdiv4_bd ia0; have hy := tdiv4_bd ib0; have hu := tmod_bd w2; have hv := tmod_bd x2
  rw [← hX] at hx; rw [← hY] at hy; rw [← hU] at hu; rw [← hV] at hv
  obtain ⟨x1, x3, e1⟩ := hx; obtain ⟨y1, y3, e2⟩ := hy; obtain ⟨u1, u3, e4, e5⟩ := hu; obtain ⟨v1, v3, e6, e7⟩ := hv
  have n1 : 1 ≤ N := by omega
  have n3 : N ≤ 65536 := by omega
  have e3 : IntKind.i64.wrap a1 = a1 := by rw [IntKind.wrap_i64]; omega
  have e8 : IntKind.i64.wrap (a1 + 1) = N := by rw [IntKind.wrap_i64]; omega
  have hu2 := sq_bd (x := U) (n := 999999) ⟨by omega, by omega⟩; have hv2 := sq_bd (x := V) (n := 999999) ⟨by omega, by omega⟩; have hn2 := sq_bd (x := N) (n := 65536) ⟨by omega, by omega⟩
  obtain ⟨PU, hPU⟩ : ∃ Q, Q = U * U := ⟨_, rfl⟩
  obtain ⟨PV, hPV⟩ : ∃ Q, Q = V * V := ⟨_, rfl⟩
  obtain ⟨PN, hPN⟩ : ∃ Q, Q = 25 * N * N := ⟨_, rfl⟩
  obtain ⟨D, hD⟩ : ∃ Q, Q = PU + PV - PN := ⟨_, rfl⟩
  have hloc := Lib.hid (rad_loc (X := X) (Y := Y) (N := N) (U := U) (V := V) (D := D) n1 (by rw [← hPU, ← hPV, ← hPN, hD]))
  have hval := Lib.hid (rad_val (X := X) (Y := Y) n1)
  have hnn : PN = 25 * (N * N) := by rw [hPN, Int.mul_assoc]
  have q1 : 0 ≤ PU ∧ PU ≤ 999998000001 := by omega
  have q2 : 0 ≤ PV ∧ PV ≤ 999998000001 := by omega
  have q3 : 0 ≤ PN ∧ PN ≤ 107374182400 := by omega
  have hp3 : P3 (X + 5 * N) Y (X - 3 * N) (Y + 4 * N) X (Y - 5 * N) := by constructor <;> unfold IsI <;> omega
  have hp4 : P4 (X + 5 * N) Y (X - 3 * N) (Y + 4 * N) X (Y - 5 * N) (X + U) (Y + V) := by constructor <;> unfold IsI <;> omega
  have m1 : U * U = PU := hPU.symm
  have m2 : V * V = PV := hPV.symm
  have m3 : 25 * N * N = PN := hPN.symm
  have m4 : PU + PV - PN = D := hD.symm
  have d1 : a0.tdiv 4 = X := hX.symm
  have d2 : b0.tdiv 4 = Y := hY.symm
  have d4 : a2.tmod 1000000 = U := hU.symm
  have d5 : b2.tmod 1000000 = V := hV.symm
  clear hX hY hN hU hV hu2 hv2 hn2 hPU hPV hPN hnn hk hD
  rcases (by omega : D < 0 ∨ D = 0 ∨ 0 < D) with hd | hd | hd
  · have hs : sg D = -1 := by unfold sg; exact Int.sign_eq_neg_one_of_neg hd
    have HS := Lib.hid hs; clear hs
    go_enter Tryd.func13, Tryd.ntmps13
    go_wp2_with fail
    have B : Below w.heap.size w ((w.alloc (.cells #[.int .i64 a0, .int .i64 b0] 28)).alloc (.cells #[.int .i32 a2, .int .i32 b2] 45)) := ((HB0.out.alloc HB0.out.size _).alloc (HB0.out.alloc HB0.out.size _).size _)
    have C : Below w.heap.size w ((w.alloc (.cells #[.int .i64 a0, .int .i64 b0] 28)).alloc (.cells #[.int .i32 a2, .int .i32 b2] 45)) := (((Below.refl w.heap.size w).alloc (Nat.le_refl _) _).alloc (by simp; try omega) _)
    have X0 : Bx ((w.alloc (.cells #[.int .i64 a0, .int .i64 b0] 28)).alloc (.cells #[.int .i32 a2, .int .i32 b2] 45)) (w.heap.size) #[.int .i64 a0, .int .i64 b0] 28 := by simpa using ((Bx.new w #[.int .i64 a0, .int .i64 b0] 28).alloc _)
    have X1 : Bx ((w.alloc (.cells #[.int .i64 a0, .int .i64 b0] 28)).alloc (.cells #[.int .i32 a2, .int .i32 b2] 45)) (w.heap.size + 1) #[.int .i32 a2, .int .i32 b2] 45 := by simpa using (Bx.new (w.alloc (.cells #[.int .i64 a0, .int .i64 b0] 28)) #[.int .i32 a2, .int .i32 b2] 45)
    have FT_1 := Lib.hid (FT.out.below C (Nat.le_refl _))
    have HB1 := Lib.hid B
    have FP_1 := Lib.hid X0
    have FU_1 := Lib.hid X1
    clear B C X0 X1 HB0 FT
    generalize ((w.alloc (.cells #[.int .i64 a0, .int .i64 b0] 28)).alloc (.cells #[.int .i32 a2, .int .i32 b2] 45)) = w1 at *
    have RB1 := Lib.hid (below_drew0 w1)
    have QF1 := Lib.hid (show ∀ w', Below w1.heap.size w1 w' → w'.cell? ⟨w.heap.size, 0, none⟩ = some (.int .i64 a0) ∧ w'.cell? ⟨w.heap.size, 1, none⟩ = some (.int .i64 b0) from fun w' hb => ⟨(FP_1.out.below hb (Nat.le_refl _)).cell 0 (v := .int .i64 a0) rfl, (FP_1.out.below hb (Nat.le_refl _)).cell 1 (v := .int .i64 b0) rfl⟩)
    refine wp_region_held_drew (S := fun w' => w'.cell? ⟨w.heap.size, 0, none⟩ = some (.int .i64 a0) ∧ w'.cell? ⟨w.heap.size, 1, none⟩ = some (.int .i64 b0)) (by kernel_rfl) (QF1.out _ RB1.out) (fun hHeld => ?_)
    refine wpAnyH_take (i := 0) (v := ?_) (by simp only [List.getElem?_toArray, List.getElem?_cons_succ, List.getElem?_cons_zero]; rfl) (by kernel_rfl) (by kernel_rfl) (by kernel_rfl) (by intro _ _ _ h; exact h) (Or.inl ⟨by rfl, ?_⟩) hHeld ?_
    rotate_left 1
    · intro w hSw; (try dsimp only at hSw); go_simp; try with_reducible rfl
    try simp only [Act.put, List.setIfInBounds_toArray, List.set_cons_zero, List.set_cons_succ]
    refine wpAnyH_take (i := 1) (v := ?_) (by simp only [List.getElem?_toArray, List.getElem?_cons_succ, List.getElem?_cons_zero]; rfl) (by kernel_rfl) (by kernel_rfl) (by kernel_rfl) (by intro _ _ _ h; exact h) (Or.inl ⟨by rfl, ?_⟩) hHeld ?_
    rotate_left 1
    · intro w hSw; (try dsimp only at hSw); go_simp; try with_reducible rfl
    try simp only [Act.put, List.setIfInBounds_toArray, List.set_cons_zero, List.set_cons_succ]
    refine wpAnyH_take (i := 2) (v := ?_) (by simp only [List.getElem?_toArray, List.getElem?_cons_succ, List.getElem?_cons_zero]; rfl) (by kernel_rfl) (by kernel_rfl) (by kernel_rfl) (by intro _ _ _ h; exact h) (Or.inl ⟨by rfl, ?_⟩) hHeld ?_
    rotate_left 1
    · intro w hSw; (try dsimp only at hSw); go_simp; try with_reducible rfl
    try simp only [Act.put, List.setIfInBounds_toArray, List.set_cons_zero, List.set_cons_succ]
    refine wpAnyH_take (i := 3) (v := ?_) (by simp only [List.getElem?_toArray, List.getElem?_cons_succ, List.getElem?_cons_zero]; rfl) (by kernel_rfl) (by kernel_rfl) (by kernel_rfl) (by intro _ _ _ h; exact h) (Or.inl ⟨by rfl, ?_⟩) hHeld ?_
    rotate_left 1
    · intro w hSw; (try dsimp only at hSw); go_simp; try with_reducible rfl
    try simp only [Act.put, List.setIfInBounds_toArray, List.set_cons_zero, List.set_cons_succ]
    refine wpAnyH_take (i := 4) (v := ?_) (by simp only [List.getElem?_toArray, List.getElem?_cons_succ, List.getElem?_cons_zero]; rfl) (by kernel_rfl) (by kernel_rfl) (by kernel_rfl) (by intro _ _ _ h; exact h) (Or.inl ⟨by rfl, ?_⟩) hHeld ?_
    rotate_left 1
    · intro w hSw; (try dsimp only at hSw); go_simp; try with_reducible rfl
    try simp only [Act.put, List.setIfInBounds_toArray, List.set_cons_zero, List.set_cons_succ]
    refine wpAnyH_take (i := 5) (v := ?_) (by simp only [List.getElem?_toArray, List.getElem?_cons_succ, List.getElem?_cons_zero]; rfl) (by kernel_rfl) (by kernel_rfl) (by kernel_rfl) (by intro _ _ _ h; exact h) (Or.inl ⟨by rfl, ?_⟩) hHeld ?_
    rotate_left 1
    · intro w hSw; (try dsimp only at hSw); go_simp; try with_reducible rfl
    try simp only [Act.put, List.setIfInBounds_toArray, List.set_cons_zero, List.set_cons_succ]
    refine wpAnyH_take (i := 6) (v := ?_) (by simp only [List.getElem?_toArray, List.getElem?_cons_succ, List.getElem?_cons_zero]; rfl) (by kernel_rfl) (by kernel_rfl) (by kernel_rfl) (by intro _ _ _ h; exact h) (Or.inl ⟨by rfl, ?_⟩) hHeld ?_
    rotate_left 1
    · intro w hSw; (try dsimp only at hSw); go_simp; try with_reducible rfl
    try simp only [Act.put, List.setIfInBounds_toArray, List.set_cons_zero, List.set_cons_succ]
    refine wpAnyH_take (i := 7) (v := ?_) (by simp only [List.getElem?_toArray, List.getElem?_cons_succ, List.getElem?_cons_zero]; rfl) (by kernel_rfl) (by kernel_rfl) (by kernel_rfl) (by intro _ _ _ h; exact h) (Or.inl ⟨by rfl, ?_⟩) hHeld ?_
    rotate_left 1
    · intro w hSw; (try dsimp only at hSw); go_simp; try with_reducible rfl
    try simp only [Act.put, List.setIfInBounds_toArray, List.set_cons_zero, List.set_cons_succ]
    refine wpAnyH_take (i := 8) (v := ?_) (by simp only [List.getElem?_toArray, List.getElem?_cons_succ, List.getElem?_cons_zero]; rfl) (by kernel_rfl) (by kernel_rfl) (by kernel_rfl) (by intro _ _ _ h; exact h) (Or.inl ⟨by rfl, ?_⟩) hHeld ?_
    rotate_left 1
    · intro w hSw; (try dsimp only at hSw); go_simp; try with_reducible rfl
    try simp only [Act.put, List.setIfInBounds_toArray, List.set_cons_zero, List.set_cons_succ]
    refine wpAnyH_take (i := 9) (v := ?_) (by simp only [List.getElem?_toArray, List.getElem?_cons_succ, List.getElem?_cons_zero]; rfl) (by kernel_rfl) (by kernel_rfl) (by kernel_rfl) (by intro _ _ _ h; exact h) (Or.inl ⟨by rfl, ?_⟩) hHeld ?_
    rotate_left 1
    · intro w hSw; (try dsimp only at hSw); go_simp; try with_reducible rfl
    try simp only [Act.put, List.setIfInBounds_toArray, List.set_cons_zero, List.set_cons_succ]
    refine wpAnyH_take (i := 10) (v := ?_) (by simp only [List.getElem?_toArray, List.getElem?_cons_succ, List.getElem?_cons_zero]; rfl) (by kernel_rfl) (by kernel_rfl) (by kernel_rfl) (by intro _ _ _ h; exact h) (Or.inl ⟨by rfl, ?_⟩) hHeld ?_
    rotate_left 1
    · intro w hSw; (try dsimp only at hSw); go_simp; try with_reducible rfl
    try simp only [Act.put, List.setIfInBounds_toArray, List.set_cons_zero, List.set_cons_succ]
    refine wpAnyH_take (i := 11) (v := ?_) (by simp only [List.getElem?_toArray, List.getElem?_cons_succ, List.getElem?_cons_zero]; rfl) (by kernel_rfl) (by kernel_rfl) (by kernel_rfl) (by intro _ _ _ h; exact h) (Or.inl ⟨by rfl, ?_⟩) hHeld ?_
    rotate_left 1
    · intro w hSw; (try dsimp only at hSw); go_simp; try with_reducible rfl
    try simp only [Act.put, List.setIfInBounds_toArray, List.set_cons_zero, List.set_cons_succ]
    refine wpAnyH_done (by kernel_rfl) ?_ _
    have FT_2 := Lib.hid (FT_1.out.below RB1.out (Nat.le_refl _))
    have FP_2 := Lib.hid (FP_1.out.below RB1.out (Nat.le_refl _))
    have FU_2 := Lib.hid (FU_1.out.below RB1.out (Nat.le_refl _))
    have HB2 := Lib.hid (HB1.out.trans (RB1.out.mono HB1.out.size))
    clear hHeld HB1 FT_1 FP_1 FU_1
    clear QF1 RB1; generalize w1.drew = w2 at *
    go_wp2_with fail
    have B : Below w.heap.size w (w2.alloc (.cells #[.int .i64 (X + 5 * N), .int .i64 (Y), .int .i64 (X - 3 * N), .int .i64 (Y + 4 * N), .int .i64 (X), .int .i64 (Y - 5 * N)] 28)) := (HB2.out.alloc HB2.out.size _)
    have C : Below w2.heap.size w2 (w2.alloc (.cells #[.int .i64 (X + 5 * N), .int .i64 (Y), .int .i64 (X - 3 * N), .int .i64 (Y + 4 * N), .int .i64 (X), .int .i64 (Y - 5 * N)] 28)) := ((Below.refl w2.heap.size w2).alloc (Nat.le_refl _) _)
    have X0 : Bx (w2.alloc (.cells #[.int .i64 (X + 5 * N), .int .i64 (Y), .int .i64 (X - 3 * N), .int .i64 (Y + 4 * N), .int .i64 (X), .int .i64 (Y - 5 * N)] 28)) (w2.heap.size) #[.int .i64 (X + 5 * N), .int .i64 (Y), .int .i64 (X - 3 * N), .int .i64 (Y + 4 * N), .int .i64 (X), .int .i64 (Y - 5 * N)] 28 := by simpa using (Bx.new w2 #[.int .i64 (X + 5 * N), .int .i64 (Y), .int .i64 (X - 3 * N), .int .i64 (Y + 4 * N), .int .i64 (X), .int .i64 (Y - 5 * N)] 28)
    have FT_3 := Lib.hid (FT_2.out.below C (Nat.le_refl _))
    have FP_3 := Lib.hid (FP_2.out.below C (Nat.le_refl _))
    have FU_3 := Lib.hid (FU_2.out.below C (Nat.le_refl _))
    have HB3 := Lib.hid B
    have FV_3 := Lib.hid X0
    clear B C X0 HB2 FT_2 FP_2 FU_2
    generalize (w2.alloc (.cells #[.int .i64 (X + 5 * N), .int .i64 (Y), .int .i64 (X - 3 * N), .int .i64 (Y + 4 * N), .int .i64 (X), .int .i64 (Y - 5 * N)] 28)) = w3 at *
    have RB3 := Lib.hid (below_drew0 w3)
    have QF3 := Lib.hid (show ∀ w', Below w3.heap.size w3 w' → w'.cell? ⟨w.heap.size + 1, 0, none⟩ = some (.int .i32 a2) ∧ w'.cell? ⟨w.heap.size + 1, 1, none⟩ = some (.int .i32 b2) from fun w' hb => ⟨(FU_3.out.below hb (Nat.le_refl _)).cell 0 (v := .int .i32 a2) rfl, (FU_3.out.below hb (Nat.le_refl _)).cell 1 (v := .int .i32 b2) rfl⟩)
    refine wp_region_held_drew (S := fun w' => w'.cell? ⟨w.heap.size + 1, 0, none⟩ = some (.int .i32 a2) ∧ w'.cell? ⟨w.heap.size + 1, 1, none⟩ = some (.int .i32 b2)) (by kernel_rfl) (QF3.out _ RB3.out) (fun hHeld => ?_)
    refine wpAnyH_take (i := 0) (v := ?_) (by simp only [List.getElem?_toArray, List.getElem?_cons_succ, List.getElem?_cons_zero]; rfl) (by kernel_rfl) (by kernel_rfl) (by kernel_rfl) (by intro _ _ _ h; exact h) (Or.inl ⟨by rfl, ?_⟩) hHeld ?_
    rotate_left 1
    · intro w hSw; (try dsimp only at hSw); go_simp; try with_reducible rfl
    try simp only [Act.put, List.setIfInBounds_toArray, List.set_cons_zero, List.set_cons_succ]
    refine wpAnyH_take (i := 1) (v := ?_) (by simp only [List.getElem?_toArray, List.getElem?_cons_succ, List.getElem?_cons_zero]; rfl) (by kernel_rfl) (by kernel_rfl) (by kernel_rfl) (by intro _ _ _ h; exact h) (Or.inl ⟨by rfl, ?_⟩) hHeld ?_
    rotate_left 1
    · intro w hSw; (try dsimp only at hSw); go_simp; try with_reducible rfl
    try simp only [Act.put, List.setIfInBounds_toArray, List.set_cons_zero, List.set_cons_succ]
    refine wpAnyH_take (i := 2) (v := ?_) (by simp only [List.getElem?_toArray, List.getElem?_cons_succ, List.getElem?_cons_zero]; rfl) (by kernel_rfl) (by kernel_rfl) (by kernel_rfl) (by intro _ _ _ h; exact h) (Or.inl ⟨by rfl, ?_⟩) hHeld ?_
    rotate_left 1
    · intro w hSw; (try dsimp only at hSw); go_simp; try with_reducible rfl
    try simp only [Act.put, List.setIfInBounds_toArray, List.set_cons_zero, List.set_cons_succ]
    refine wpAnyH_take (i := 3) (v := ?_) (by simp only [List.getElem?_toArray, List.getElem?_cons_succ, List.getElem?_cons_zero]; rfl) (by kernel_rfl) (by kernel_rfl) (by kernel_rfl) (by intro _ _ _ h; exact h) (Or.inl ⟨by rfl, ?_⟩) hHeld ?_
    rotate_left 1
    · intro w hSw; (try dsimp only at hSw); go_simp; try with_reducible rfl
    try simp only [Act.put, List.setIfInBounds_toArray, List.set_cons_zero, List.set_cons_succ]
    refine wpAnyH_take (i := 4) (v := ?_) (by simp only [List.getElem?_toArray, List.getElem?_cons_succ, List.getElem?_cons_zero]; rfl) (by kernel_rfl) (by kernel_rfl) (by kernel_rfl) (by intro _ _ _ h; exact h) (Or.inl ⟨by rfl, ?_⟩) hHeld ?_
    rotate_left 1
    · intro w hSw; (try dsimp only at hSw); go_simp; try with_reducible rfl
    try simp only [Act.put, List.setIfInBounds_toArray, List.set_cons_zero, List.set_cons_succ]
    refine wpAnyH_take (i := 5) (v := ?_) (by simp only [List.getElem?_toArray, List.getElem?_cons_succ, List.getElem?_cons_zero]; rfl) (by kernel_rfl) (by kernel_rfl) (by kernel_rfl) (by intro _ _ _ h; exact h) (Or.inl ⟨by rfl, ?_⟩) hHeld ?_
    rotate_left 1
    · intro w hSw; (try dsimp only at hSw); go_simp; try with_reducible rfl
    try simp only [Act.put, List.setIfInBounds_toArray, List.set_cons_zero, List.set_cons_succ]
    refine wpAnyH_take (i := 6) (v := ?_) (by simp only [List.getElem?_toArray, List.getElem?_cons_succ, List.getElem?_cons_zero]; rfl) (by kernel_rfl) (by kernel_rfl) (by kernel_rfl) (by intro _ _ _ h; exact h) (Or.inl ⟨by rfl, ?_⟩) hHeld ?_
    rotate_left 1
    · intro w hSw; (try dsimp only at hSw); go_simp; try with_reducible rfl
    try simp only [Act.put, List.setIfInBounds_toArray, List.set_cons_zero, List.set_cons_succ]
    refine wpAnyH_take (i := 7) (v := ?_) (by simp only [List.getElem?_toArray, List.getElem?_cons_succ, List.getElem?_cons_zero]; rfl) (by kernel_rfl) (by kernel_rfl) (by kernel_rfl) (by intro _ _ _ h; exact h) (Or.inl ⟨by rfl, ?_⟩) hHeld ?_
    rotate_left 1
    · intro w hSw; (try dsimp only at hSw); go_simp; try with_reducible rfl
    try simp only [Act.put, List.setIfInBounds_toArray, List.set_cons_zero, List.set_cons_succ]
    refine wpAnyH_take (i := 8) (v := ?_) (by simp only [List.getElem?_toArray, List.getElem?_cons_succ, List.getElem?_cons_zero]; rfl) (by kernel_rfl) (by kernel_rfl) (by kernel_rfl) (by intro _ _ _ h; exact h) (Or.inl ⟨by rfl, ?_⟩) hHeld ?_
    rotate_left 1
    · intro w hSw; (try dsimp only at hSw); go_simp; try with_reducible rfl
    try simp only [Act.put, List.setIfInBounds_toArray, List.set_cons_zero, List.set_cons_succ]
    refine wpAnyH_take (i := 9) (v := ?_) (by simp only [List.getElem?_toArray, List.getElem?_cons_succ, List.getElem?_cons_zero]; rfl) (by kernel_rfl) (by kernel_rfl) (by kernel_rfl) (by intro _ _ _ h; exact h) (Or.inl ⟨by rfl, ?_⟩) hHeld ?_
    rotate_left 1
    · intro w hSw; (try dsimp only at hSw); go_simp; try with_reducible rfl
    try simp only [Act.put, List.setIfInBounds_toArray, List.set_cons_zero, List.set_cons_succ]
    refine wpAnyH_done (by kernel_rfl) ?_ _
    have FT_4 := Lib.hid (FT_3.out.below RB3.out (Nat.le_refl _))
    have FP_4 := Lib.hid (FP_3.out.below RB3.out (Nat.le_refl _))
    have FU_4 := Lib.hid (FU_3.out.below RB3.out (Nat.le_refl _))
    have FV_4 := Lib.hid (FV_3.out.below RB3.out (Nat.le_refl _))
    have HB4 := Lib.hid (HB3.out.trans (RB3.out.mono HB3.out.size))
    clear hHeld HB3 FT_3 FP_3 FU_3 FV_3
    clear QF3 RB3; generalize w3.drew = w4 at *
    go_wp2_with fail
    refine (alive15 _ FT_4.out).mono ?_
    rintro e w5 ⟨rfl, B⟩
    have HB5 := Lib.hid (HB4.out.trans (B.mono HB4.out.size))
    have FT_5 := Lib.hid (FT_4.out.below B (Nat.le_refl _))
    have FP_5 := Lib.hid (FP_4.out.below B (Nat.le_refl _))
    have FU_5 := Lib.hid (FU_4.out.below B (Nat.le_refl _))
    have FV_5 := Lib.hid (FV_4.out.below B (Nat.le_refl _))
    clear B  HB4 FT_4 FP_4 FU_4 FV_4
    go_wp2_with fail
    refine (disc_Valid3 _ 3 (X + 5 * N) (Y) (X - 3 * N) (Y + 4 * N) (X) (Y - 5 * N) hp3 _ FT_5.out FV_5.out.t3).mono ?_
    rintro e w6 ⟨rfl, B⟩
    have HB6 := Lib.hid (HB5.out.trans (B.mono HB5.out.size))
    have FT_6 := Lib.hid (FT_5.out.below B (Nat.le_refl _))
    have FP_6 := Lib.hid (FP_5.out.below B (Nat.le_refl _))
    have FU_6 := Lib.hid (FU_5.out.below B (Nat.le_refl _))
    have FV_6 := Lib.hid (FV_5.out.below B (Nat.le_refl _))
    clear B  HB5 FT_5 FP_5 FU_5 FV_5
    rw [hval.out]
    go_wp2_with fail
    refine (disc_Locate3 _ 3 (X + 5 * N) (Y) (X - 3 * N) (Y + 4 * N) (X) (Y - 5 * N) (X + U) (Y + V) hp4 _ FT_6.out FV_6.out.t3).mono ?_
    rintro e w7 ⟨rfl, B⟩
    have HB7 := Lib.hid (HB6.out.trans (B.mono HB6.out.size))
    have FT_7 := Lib.hid (FT_6.out.below B (Nat.le_refl _))
    have FP_7 := Lib.hid (FP_6.out.below B (Nat.le_refl _))
    have FU_7 := Lib.hid (FU_6.out.below B (Nat.le_refl _))
    have FV_7 := Lib.hid (FV_6.out.below B (Nat.le_refl _))
    clear B  HB6 FT_6 FP_6 FU_6 FV_6
    rw [hloc.out, HS.out]
    go_wp2_with fail
    go_ret
    exact ⟨rfl, HB7.out⟩
  · have hs : sg D = 0 := by rw [hd]; rfl
    have HS := Lib.hid hs; clear hs
    skip
    go_enter Tryd.func13, Tryd.ntmps13
    go_wp2_with fail
    have B : Below w.heap.size w ((w.alloc (.cells #[.int .i64 a0, .int .i64 b0] 28)).alloc (.cells #[.int .i32 a2, .int .i32 b2] 45)) := ((HB0.out.alloc HB0.out.size _).alloc (HB0.out.alloc HB0.out.size _).size _)
    have C : Below w.heap.size w ((w.alloc (.cells #[.int .i64 a0, .int .i64 b0] 28)).alloc (.cells #[.int .i32 a2, .int .i32 b2] 45)) := (((Below.refl w.heap.size w).alloc (Nat.le_refl _) _).alloc (by simp; try omega) _)
    have X0 : Bx ((w.alloc (.cells #[.int .i64 a0, .int .i64 b0] 28)).alloc (.cells #[.int .i32 a2, .int .i32 b2] 45)) (w.heap.size) #[.int .i64 a0, .int .i64 b0] 28 := by simpa using ((Bx.new w #[.int .i64 a0, .int .i64 b0] 28).alloc _)
    have X1 : Bx ((w.alloc (.cells #[.int .i64 a0, .int .i64 b0] 28)).alloc (.cells #[.int .i32 a2, .int .i32 b2] 45)) (w.heap.size + 1) #[.int .i32 a2, .int .i32 b2] 45 := by simpa using (Bx.new (w.alloc (.cells #[.int .i64 a0, .int .i64 b0] 28)) #[.int .i32 a2, .int .i32 b2] 45)
    have FT_1 := Lib.hid (FT.out.below C (Nat.le_refl _))
    have HB1 := Lib.hid B
    have FP_1 := Lib.hid X0
    have FU_1 := Lib.hid X1
    clear B C X0 X1 HB0 FT
    generalize ((w.alloc (.cells #[.int .i64 a0, .int .i64 b0] 28)).alloc (.cells #[.int .i32 a2, .int .i32 b2] 45)) = w1 at *
    have RB1 := Lib.hid (below_drew0 w1)
    have QF1 := Lib.hid (show ∀ w', Below w1.heap.size w1 w' → w'.cell? ⟨w.heap.size, 0, none⟩ = some (.int .i64 a0) ∧ w'.cell? ⟨w.heap.size, 1, none⟩ = some (.int .i64 b0) from fun w' hb => ⟨(FP_1.out.below hb (Nat.le_refl _)).cell 0 (v := .int .i64 a0) rfl, (FP_1.out.below hb (Nat.le_refl _)).cell 1 (v := .int .i64 b0) rfl⟩)
    refine wp_region_held_drew (S := fun w' => w'.cell? ⟨w.heap.size, 0, none⟩ = some (.int .i64 a0) ∧ w'.cell? ⟨w.heap.size, 1, none⟩ = some (.int .i64 b0)) (by kernel_rfl) (QF1.out _ RB1.out) (fun hHeld => ?_)
    refine wpAnyH_take (i := 0) (v := ?_) (by simp only [List.getElem?_toArray, List.getElem?_cons_succ, List.getElem?_cons_zero]; rfl) (by kernel_rfl) (by kernel_rfl) (by kernel_rfl) (by intro _ _ _ h; exact h) (Or.inl ⟨by rfl, ?_⟩) hHeld ?_
    rotate_left 1
    · intro w hSw; (try dsimp only at hSw); go_simp; try with_reducible rfl
    try simp only [Act.put, List.setIfInBounds_toArray, List.set_cons_zero, List.set_cons_succ]
    refine wpAnyH_take (i := 1) (v := ?_) (by simp only [List.getElem?_toArray, List.getElem?_cons_succ, List.getElem?_cons_zero]; rfl) (by kernel_rfl) (by kernel_rfl) (by kernel_rfl) (by intro _ _ _ h; exact h) (Or.inl ⟨by rfl, ?_⟩) hHeld ?_
    rotate_left 1
    · intro w hSw; (try dsimp only at hSw); go_simp; try with_reducible rfl
    try simp only [Act.put, List.setIfInBounds_toArray, List.set_cons_zero, List.set_cons_succ]
    refine wpAnyH_take (i := 2) (v := ?_) (by simp only [List.getElem?_toArray, List.getElem?_cons_succ, List.getElem?_cons_zero]; rfl) (by kernel_rfl) (by kernel_rfl) (by kernel_rfl) (by intro _ _ _ h; exact h) (Or.inl ⟨by rfl, ?_⟩) hHeld ?_
    rotate_left 1
    · intro w hSw; (try dsimp only at hSw); go_simp; try with_reducible rfl
    try simp only [Act.put, List.setIfInBounds_toArray, List.set_cons_zero, List.set_cons_succ]
    refine wpAnyH_take (i := 3) (v := ?_) (by simp only [List.getElem?_toArray, List.getElem?_cons_succ, List.getElem?_cons_zero]; rfl) (by kernel_rfl) (by kernel_rfl) (by kernel_rfl) (by intro _ _ _ h; exact h) (Or.inl ⟨by rfl, ?_⟩) hHeld ?_
    rotate_left 1
    · intro w hSw; (try dsimp only at hSw); go_simp; try with_reducible rfl
    try simp only [Act.put, List.setIfInBounds_toArray, List.set_cons_zero, List.set_cons_succ]
    refine wpAnyH_take (i := 4) (v := ?_) (by simp only [List.getElem?_toArray, List.getElem?_cons_succ, List.getElem?_cons_zero]; rfl) (by kernel_rfl) (by kernel_rfl) (by kernel_rfl) (by intro _ _ _ h; exact h) (Or.inl ⟨by rfl, ?_⟩) hHeld ?_
    rotate_left 1
    · intro w hSw; (try dsimp only at hSw); go_simp; try with_reducible rfl
    try simp only [Act.put, List.setIfInBounds_toArray, List.set_cons_zero, List.set_cons_succ]
    refine wpAnyH_take (i := 5) (v := ?_) (by simp only [List.getElem?_toArray, List.getElem?_cons_succ, List.getElem?_cons_zero]; rfl) (by kernel_rfl) (by kernel_rfl) (by kernel_rfl) (by intro _ _ _ h; exact h) (Or.inl ⟨by rfl, ?_⟩) hHeld ?_
    rotate_left 1
    · intro w hSw; (try dsimp only at hSw); go_simp; try with_reducible rfl
    try simp only [Act.put, List.setIfInBounds_toArray, List.set_cons_zero, List.set_cons_succ]
    refine wpAnyH_take (i := 6) (v := ?_) (by simp only [List.getElem?_toArray, List.getElem?_cons_succ, List.getElem?_cons_zero]; rfl) (by kernel_rfl) (by kernel_rfl) (by kernel_rfl) (by intro _ _ _ h; exact h) (Or.inl ⟨by rfl, ?_⟩) hHeld ?_
    rotate_left 1
    · intro w hSw; (try dsimp only at hSw); go_simp; try with_reducible rfl
    try simp only [Act.put, List.setIfInBounds_toArray, List.set_cons_zero, List.set_cons_succ]
    refine wpAnyH_take (i := 7) (v := ?_) (by simp only [List.getElem?_toArray, List.getElem?_cons_succ, List.getElem?_cons_zero]; rfl) (by kernel_rfl) (by kernel_rfl) (by kernel_rfl) (by intro _ _ _ h; exact h) (Or.inl ⟨by rfl, ?_⟩) hHeld ?_
    rotate_left 1
    · intro w hSw; (try dsimp only at hSw); go_simp; try with_reducible rfl
    try simp only [Act.put, List.setIfInBounds_toArray, List.set_cons_zero, List.set_cons_succ]
    refine wpAnyH_take (i := 8) (v := ?_) (by simp only [List.getElem?_toArray, List.getElem?_cons_succ, List.getElem?_cons_zero]; rfl) (by kernel_rfl) (by kernel_rfl) (by kernel_rfl) (by intro _ _ _ h; exact h) (Or.inl ⟨by rfl, ?_⟩) hHeld ?_
    rotate_left 1
    · intro w hSw; (try dsimp only at hSw); go_simp; try with_reducible rfl
    try simp only [Act.put, List.setIfInBounds_toArray, List.set_cons_zero, List.set_cons_succ]
    refine wpAnyH_take (i := 9) (v := ?_) (by simp only [List.getElem?_toArray, List.getElem?_cons_succ, List.getElem?_cons_zero]; rfl) (by kernel_rfl) (by kernel_rfl) (by kernel_rfl) (by intro _ _ _ h; exact h) (Or.inl ⟨by rfl, ?_⟩) hHeld ?_
    rotate_left 1
    · intro w hSw; (try dsimp only at hSw); go_simp; try with_reducible rfl
    try simp only [Act.put, List.setIfInBounds_toArray, List.set_cons_zero, List.set_cons_succ]
    refine wpAnyH_take (i := 10) (v := ?_) (by simp only [List.getElem?_toArray, List.getElem?_cons_succ, List.getElem?_cons_zero]; rfl) (by kernel_rfl) (by kernel_rfl) (by kernel_rfl) (by intro _ _ _ h; exact h) (Or.inl ⟨by rfl, ?_⟩) hHeld ?_
    rotate_left 1
    · intro w hSw; (try dsimp only at hSw); go_simp; try with_reducible rfl
    try simp only [Act.put, List.setIfInBounds_toArray, List.set_cons_zero, List.set_cons_succ]
    refine wpAnyH_take (i := 11) (v := ?_) (by simp only [List.getElem?_toArray, List.getElem?_cons_succ, List.getElem?_cons_zero]; rfl) (by kernel_rfl) (by kernel_rfl) (by kernel_rfl) (by intro _ _ _ h; exact h) (Or.inl ⟨by rfl, ?_⟩) hHeld ?_
    rotate_left 1
    · intro w hSw; (try dsimp only at hSw); go_simp; try with_reducible rfl
    try simp only [Act.put, List.setIfInBounds_toArray, List.set_cons_zero, List.set_cons_succ]
    refine wpAnyH_done (by kernel_rfl) ?_ _
    have FT_2 := Lib.hid (FT_1.out.below RB1.out (Nat.le_refl _))
    have FP_2 := Lib.hid (FP_1.out.below RB1.out (Nat.le_refl _))
    have FU_2 := Lib.hid (FU_1.out.below RB1.out (Nat.le_refl _))
    have HB2 := Lib.hid (HB1.out.trans (RB1.out.mono HB1.out.size))
    clear hHeld HB1 FT_1 FP_1 FU_1
    clear QF1 RB1; generalize w1.drew = w2 at *
    go_wp2_with fail
    have B : Below w.heap.size w (w2.alloc (.cells #[.int .i64 (X + 5 * N), .int .i64 (Y), .int .i64 (X - 3 * N), .int .i64 (Y + 4 * N), .int .i64 (X), .int .i64 (Y - 5 * N)] 28)) := (HB2.out.alloc HB2.out.size _)
    have C : Below w2.heap.size w2 (w2.alloc (.cells #[.int .i64 (X + 5 * N), .int .i64 (Y), .int .i64 (X - 3 * N), .int .i64 (Y + 4 * N), .int .i64 (X), .int .i64 (Y - 5 * N)] 28)) := ((Below.refl w2.heap.size w2).alloc (Nat.le_refl _) _)
    have X0 : Bx (w2.alloc (.cells #[.int .i64 (X + 5 * N), .int .i64 (Y), .int .i64 (X - 3 * N), .int .i64 (Y + 4 * N), .int .i64 (X), .int .i64 (Y - 5 * N)] 28)) (w2.heap.size) #[.int .i64 (X + 5 * N), .int .i64 (Y), .int .i64 (X - 3 * N), .int .i64 (Y + 4 * N), .int .i64 (X), .int .i64 (Y - 5 * N)] 28 := by simpa using (Bx.new w2 #[.int .i64 (X + 5 * N), .int .i64 (Y), .int .i64 (X - 3 * N), .int .i64 (Y + 4 * N), .int .i64 (X), .int .i64 (Y - 5 * N)] 28)
    have FT_3 := Lib.hid (FT_2.out.below C (Nat.le_refl _))
    have FP_3 := Lib.hid (FP_2.out.below C (Nat.le_refl _))
    have FU_3 := Lib.hid (FU_2.out.below C (Nat.le_refl _))
    have HB3 := Lib.hid B
    have FV_3 := Lib.hid X0
    clear B C X0 HB2 FT_2 FP_2 FU_2
    generalize (w2.alloc (.cells #[.int .i64 (X + 5 * N), .int .i64 (Y), .int .i64 (X - 3 * N), .int .i64 (Y + 4 * N), .int .i64 (X), .int .i64 (Y - 5 * N)] 28)) = w3 at *
    have RB3 := Lib.hid (below_drew0 w3)
    have QF3 := Lib.hid (show ∀ w', Below w3.heap.size w3 w' → w'.cell? ⟨w.heap.size + 1, 0, none⟩ = some (.int .i32 a2) ∧ w'.cell? ⟨w.heap.size + 1, 1, none⟩ = some (.int .i32 b2) from fun w' hb => ⟨(FU_3.out.below hb (Nat.le_refl _)).cell 0 (v := .int .i32 a2) rfl, (FU_3.out.below hb (Nat.le_refl _)).cell 1 (v := .int .i32 b2) rfl⟩)
    refine wp_region_held_drew (S := fun w' => w'.cell? ⟨w.heap.size + 1, 0, none⟩ = some (.int .i32 a2) ∧ w'.cell? ⟨w.heap.size + 1, 1, none⟩ = some (.int .i32 b2)) (by kernel_rfl) (QF3.out _ RB3.out) (fun hHeld => ?_)
    refine wpAnyH_take (i := 0) (v := ?_) (by simp only [List.getElem?_toArray, List.getElem?_cons_succ, List.getElem?_cons_zero]; rfl) (by kernel_rfl) (by kernel_rfl) (by kernel_rfl) (by intro _ _ _ h; exact h) (Or.inl ⟨by rfl, ?_⟩) hHeld ?_
    rotate_left 1
    · intro w hSw; (try dsimp only at hSw); go_simp; try with_reducible rfl
    try simp only [Act.put, List.setIfInBounds_toArray, List.set_cons_zero, List.set_cons_succ]
    refine wpAnyH_take (i := 1) (v := ?_) (by simp only [List.getElem?_toArray, List.getElem?_cons_succ, List.getElem?_cons_zero]; rfl) (by kernel_rfl) (by kernel_rfl) (by kernel_rfl) (by intro _ _ _ h; exact h) (Or.inl ⟨by rfl, ?_⟩) hHeld ?_
    rotate_left 1
    · intro w hSw; (try dsimp only at hSw); go_simp; try with_reducible rfl
    try simp only [Act.put, List.setIfInBounds_toArray, List.set_cons_zero, List.set_cons_succ]
    refine wpAnyH_take (i := 2) (v := ?_) (by simp only [List.getElem?_toArray, List.getElem?_cons_succ, List.getElem?_cons_zero]; rfl) (by kernel_rfl) (by kernel_rfl) (by kernel_rfl) (by intro _ _ _ h; exact h) (Or.inl ⟨by rfl, ?_⟩) hHeld ?_
    rotate_left 1
    · intro w hSw; (try dsimp only at hSw); go_simp; try with_reducible rfl
    try simp only [Act.put, List.setIfInBounds_toArray, List.set_cons_zero, List.set_cons_succ]
    refine wpAnyH_take (i := 3) (v := ?_) (by simp only [List.getElem?_toArray, List.getElem?_cons_succ, List.getElem?_cons_zero]; rfl) (by kernel_rfl) (by kernel_rfl) (by kernel_rfl) (by intro _ _ _ h; exact h) (Or.inl ⟨by rfl, ?_⟩) hHeld ?_
    rotate_left 1
    · intro w hSw; (try dsimp only at hSw); go_simp; try with_reducible rfl
    try simp only [Act.put, List.setIfInBounds_toArray, List.set_cons_zero, List.set_cons_succ]
    refine wpAnyH_take (i := 4) (v := ?_) (by simp only [List.getElem?_toArray, List.getElem?_cons_succ, List.getElem?_cons_zero]; rfl) (by kernel_rfl) (by kernel_rfl) (by kernel_rfl) (by intro _ _ _ h; exact h) (Or.inl ⟨by rfl, ?_⟩) hHeld ?_
    rotate_left 1
    · intro w hSw; (try dsimp only at hSw); go_simp; try with_reducible rfl
    try simp only [Act.put, List.setIfInBounds_toArray, List.set_cons_zero, List.set_cons_succ]
    refine wpAnyH_take (i := 5) (v := ?_) (by simp only [List.getElem?_toArray, List.getElem?_cons_succ, List.getElem?_cons_zero]; rfl) (by kernel_rfl) (by kernel_rfl) (by kernel_rfl) (by intro _ _ _ h; exact h) (Or.inl ⟨by rfl, ?_⟩) hHeld ?_
    rotate_left 1
    · intro w hSw; (try dsimp only at hSw); go_simp; try with_reducible rfl
    try simp only [Act.put, List.setIfInBounds_toArray, List.set_cons_zero, List.set_cons_succ]
    refine wpAnyH_take (i := 6) (v := ?_) (by simp only [List.getElem?_toArray, List.getElem?_cons_succ, List.getElem?_cons_zero]; rfl) (by kernel_rfl) (by kernel_rfl) (by kernel_rfl) (by intro _ _ _ h; exact h) (Or.inl ⟨by rfl, ?_⟩) hHeld ?_
    rotate_left 1
    · intro w hSw; (try dsimp only at hSw); go_simp; try with_reducible rfl
    try simp only [Act.put, List.setIfInBounds_toArray, List.set_cons_zero, List.set_cons_succ]
    refine wpAnyH_take (i := 7) (v := ?_) (by simp only [List.getElem?_toArray, List.getElem?_cons_succ, List.getElem?_cons_zero]; rfl) (by kernel_rfl) (by kernel_rfl) (by kernel_rfl) (by intro _ _ _ h; exact h) (Or.inl ⟨by rfl, ?_⟩) hHeld ?_
    rotate_left 1
    · intro w hSw; (try dsimp only at hSw); go_simp; try with_reducible rfl
    try simp only [Act.put, List.setIfInBounds_toArray, List.set_cons_zero, List.set_cons_succ]
    refine wpAnyH_take (i := 8) (v := ?_) (by simp only [List.getElem?_toArray, List.getElem?_cons_succ, List.getElem?_cons_zero]; rfl) (by kernel_rfl) (by kernel_rfl) (by kernel_rfl) (by intro _ _ _ h; exact h) (Or.inl ⟨by rfl, ?_⟩) hHeld ?_
    rotate_left 1
    · intro w hSw; (try dsimp only at hSw); go_simp; try with_reducible rfl
    try simp only [Act.put, List.setIfInBounds_toArray, List.set_cons_zero, List.set_cons_succ]
    refine wpAnyH_take (i := 9) (v := ?_) (by simp only [List.getElem?_toArray, List.getElem?_cons_succ, List.getElem?_cons_zero]; rfl) (by kernel_rfl) (by kernel_rfl) (by kernel_rfl) (by intro _ _ _ h; exact h) (Or.inl ⟨by rfl, ?_⟩) hHeld ?_
    rotate_left 1
    · intro w hSw; (try dsimp only at hSw); go_simp; try with_reducible rfl
    try simp only [Act.put, List.setIfInBounds_toArray, List.set_cons_zero, List.set_cons_succ]
    refine wpAnyH_done (by kernel_rfl) ?_ _
    have FT_4 := Lib.hid (FT_3.out.below RB3.out (Nat.le_refl _))
    have FP_4 := Lib.hid (FP_3.out.below RB3.out (Nat.le_refl _))
    have FU_4 := Lib.hid (FU_3.out.below RB3.out (Nat.le_refl _))
    have FV_4 := Lib.hid (FV_3.out.below RB3.out (Nat.le_refl _))
    have HB4 := Lib.hid (HB3.out.trans (RB3.out.mono HB3.out.size))
    clear hHeld HB3 FT_3 FP_3 FU_3 FV_3
    clear QF3 RB3; generalize w3.drew = w4 at *
    go_wp2_with fail
    refine (alive15 _ FT_4.out).mono ?_
    rintro e w5 ⟨rfl, B⟩
    have HB5 := Lib.hid (HB4.out.trans (B.mono HB4.out.size))
    have FT_5 := Lib.hid (FT_4.out.below B (Nat.le_refl _))
    have FP_5 := Lib.hid (FP_4.out.below B (Nat.le_refl _))
    have FU_5 := Lib.hid (FU_4.out.below B (Nat.le_refl _))
    have FV_5 := Lib.hid (FV_4.out.below B (Nat.le_refl _))
    clear B  HB4 FT_4 FP_4 FU_4 FV_4
    go_wp2_with fail
    refine (disc_Valid3 _ 3 (X + 5 * N) (Y) (X - 3 * N) (Y + 4 * N) (X) (Y - 5 * N) hp3 _ FT_5.out FV_5.out.t3).mono ?_
    rintro e w6 ⟨rfl, B⟩
    have HB6 := Lib.hid (HB5.out.trans (B.mono HB5.out.size))
    have FT_6 := Lib.hid (FT_5.out.below B (Nat.le_refl _))
    have FP_6 := Lib.hid (FP_5.out.below B (Nat.le_refl _))
    have FU_6 := Lib.hid (FU_5.out.below B (Nat.le_refl _))
    have FV_6 := Lib.hid (FV_5.out.below B (Nat.le_refl _))
    clear B  HB5 FT_5 FP_5 FU_5 FV_5
    rw [hval.out]
    go_wp2_with fail
    refine (disc_Locate3 _ 3 (X + 5 * N) (Y) (X - 3 * N) (Y + 4 * N) (X) (Y - 5 * N) (X + U) (Y + V) hp4 _ FT_6.out FV_6.out.t3).mono ?_
    rintro e w7 ⟨rfl, B⟩
    have HB7 := Lib.hid (HB6.out.trans (B.mono HB6.out.size))
    have FT_7 := Lib.hid (FT_6.out.below B (Nat.le_refl _))
    have FP_7 := Lib.hid (FP_6.out.below B (Nat.le_refl _))
    have FU_7 := Lib.hid (FU_6.out.below B (Nat.le_refl _))
    have FV_7 := Lib.hid (FV_6.out.below B (Nat.le_refl _))
    clear B  HB6 FT_6 FP_6 FU_6 FV_6
    rw [hloc.out, HS.out]
    go_wp2_with fail
    go_ret
    exact ⟨rfl, HB7.out⟩
  · have hs : sg D = 1 := sg_pos hd
    have HS := Lib.hid hs; clear hs
    go_enter Tryd.func13, Tryd.ntmps13
    go_wp2_with fail
    have B : Below w.heap.size w ((w.alloc (.cells #[.int .i64 a0, .int .i64 b0] 28)).alloc (.cells #[.int .i32 a2, .int .i32 b2] 45)) := ((HB0.out.alloc HB0.out.size _).alloc (HB0.out.alloc HB0.out.size _).size _)
    have C : Below w.heap.size w ((w.alloc (.cells #[.int .i64 a0, .int .i64 b0] 28)).alloc (.cells #[.int .i32 a2, .int .i32 b2] 45)) := (((Below.refl w.heap.size w).alloc (Nat.le_refl _) _).alloc (by simp; try omega) _)
    have X0 : Bx ((w.alloc (.cells #[.int .i64 a0, .int .i64 b0] 28)).alloc (.cells #[.int .i32 a2, .int .i32 b2] 45)) (w.heap.size) #[.int .i64 a0, .int .i64 b0] 28 := by simpa using ((Bx.new w #[.int .i64 a0, .int .i64 b0] 28).alloc _)
    have X1 : Bx ((w.alloc (.cells #[.int .i64 a0, .int .i64 b0] 28)).alloc (.cells #[.int .i32 a2, .int .i32 b2] 45)) (w.heap.size + 1) #[.int .i32 a2, .int .i32 b2] 45 := by simpa using (Bx.new (w.alloc (.cells #[.int .i64 a0, .int .i64 b0] 28)) #[.int .i32 a2, .int .i32 b2] 45)
    have FT_1 := Lib.hid (FT.out.below C (Nat.le_refl _))
    have HB1 := Lib.hid B
    have FP_1 := Lib.hid X0
    have FU_1 := Lib.hid X1
    clear B C X0 X1 HB0 FT
    generalize ((w.alloc (.cells #[.int .i64 a0, .int .i64 b0] 28)).alloc (.cells #[.int .i32 a2, .int .i32 b2] 45)) = w1 at *
    have RB1 := Lib.hid (below_drew0 w1)
    have QF1 := Lib.hid (show ∀ w', Below w1.heap.size w1 w' → w'.cell? ⟨w.heap.size, 0, none⟩ = some (.int .i64 a0) ∧ w'.cell? ⟨w.heap.size, 1, none⟩ = some (.int .i64 b0) from fun w' hb => ⟨(FP_1.out.below hb (Nat.le_refl _)).cell 0 (v := .int .i64 a0) rfl, (FP_1.out.below hb (Nat.le_refl _)).cell 1 (v := .int .i64 b0) rfl⟩)
    refine wp_region_held_drew (S := fun w' => w'.cell? ⟨w.heap.size, 0, none⟩ = some (.int .i64 a0) ∧ w'.cell? ⟨w.heap.size, 1, none⟩ = some (.int .i64 b0)) (by kernel_rfl) (QF1.out _ RB1.out) (fun hHeld => ?_)
    refine wpAnyH_take (i := 0) (v := ?_) (by simp only [List.getElem?_toArray, List.getElem?_cons_succ, List.getElem?_cons_zero]; rfl) (by kernel_rfl) (by kernel_rfl) (by kernel_rfl) (by intro _ _ _ h; exact h) (Or.inl ⟨by rfl, ?_⟩) hHeld ?_
    rotate_left 1
    · intro w hSw; (try dsimp only at hSw); go_simp; try with_reducible rfl
    try simp only [Act.put, List.setIfInBounds_toArray, List.set_cons_zero, List.set_cons_succ]
    refine wpAnyH_take (i := 1) (v := ?_) (by simp only [List.getElem?_toArray, List.getElem?_cons_succ, List.getElem?_cons_zero]; rfl) (by kernel_rfl) (by kernel_rfl) (by kernel_rfl) (by intro _ _ _ h; exact h) (Or.inl ⟨by rfl, ?_⟩) hHeld ?_
    rotate_left 1
    · intro w hSw; (try dsimp only at hSw); go_simp; try with_reducible rfl
    try simp only [Act.put, List.setIfInBounds_toArray, List.set_cons_zero, List.set_cons_succ]
    refine wpAnyH_take (i := 2) (v := ?_) (by simp only [List.getElem?_toArray, List.getElem?_cons_succ, List.getElem?_cons_zero]; rfl) (by kernel_rfl) (by kernel_rfl) (by kernel_rfl) (by intro _ _ _ h; exact h) (Or.inl ⟨by rfl, ?_⟩) hHeld ?_
    rotate_left 1
    · intro w hSw; (try dsimp only at hSw); go_simp; try with_reducible rfl
    try simp only [Act.put, List.setIfInBounds_toArray, List.set_cons_zero, List.set_cons_succ]
    refine wpAnyH_take (i := 3) (v := ?_) (by simp only [List.getElem?_toArray, List.getElem?_cons_succ, List.getElem?_cons_zero]; rfl) (by kernel_rfl) (by kernel_rfl) (by kernel_rfl) (by intro _ _ _ h; exact h) (Or.inl ⟨by rfl, ?_⟩) hHeld ?_
    rotate_left 1
    · intro w hSw; (try dsimp only at hSw); go_simp; try with_reducible rfl
    try simp only [Act.put, List.setIfInBounds_toArray, List.set_cons_zero, List.set_cons_succ]
    refine wpAnyH_take (i := 4) (v := ?_) (by simp only [List.getElem?_toArray, List.getElem?_cons_succ, List.getElem?_cons_zero]; rfl) (by kernel_rfl) (by kernel_rfl) (by kernel_rfl) (by intro _ _ _ h; exact h) (Or.inl ⟨by rfl, ?_⟩) hHeld ?_
    rotate_left 1
    · intro w hSw; (try dsimp only at hSw); go_simp; try with_reducible rfl
    try simp only [Act.put, List.setIfInBounds_toArray, List.set_cons_zero, List.set_cons_succ]
    refine wpAnyH_take (i := 5) (v := ?_) (by simp only [List.getElem?_toArray, List.getElem?_cons_succ, List.getElem?_cons_zero]; rfl) (by kernel_rfl) (by kernel_rfl) (by kernel_rfl) (by intro _ _ _ h; exact h) (Or.inl ⟨by rfl, ?_⟩) hHeld ?_
    rotate_left 1
    · intro w hSw; (try dsimp only at hSw); go_simp; try with_reducible rfl
    try simp only [Act.put, List.setIfInBounds_toArray, List.set_cons_zero, List.set_cons_succ]
    refine wpAnyH_take (i := 6) (v := ?_) (by simp only [List.getElem?_toArray, List.getElem?_cons_succ, List.getElem?_cons_zero]; rfl) (by kernel_rfl) (by kernel_rfl) (by kernel_rfl) (by intro _ _ _ h; exact h) (Or.inl ⟨by rfl, ?_⟩) hHeld ?_
    rotate_left 1
    · intro w hSw; (try dsimp only at hSw); go_simp; try with_reducible rfl
    try simp only [Act.put, List.setIfInBounds_toArray, List.set_cons_zero, List.set_cons_succ]
    refine wpAnyH_take (i := 7) (v := ?_) (by simp only [List.getElem?_toArray, List.getElem?_cons_succ, List.getElem?_cons_zero]; rfl) (by kernel_rfl) (by kernel_rfl) (by kernel_rfl) (by intro _ _ _ h; exact h) (Or.inl ⟨by rfl, ?_⟩) hHeld ?_
    rotate_left 1
    · intro w hSw; (try dsimp only at hSw); go_simp; try with_reducible rfl
    try simp only [Act.put, List.setIfInBounds_toArray, List.set_cons_zero, List.set_cons_succ]
    refine wpAnyH_take (i := 8) (v := ?_) (by simp only [List.getElem?_toArray, List.getElem?_cons_succ, List.getElem?_cons_zero]; rfl) (by kernel_rfl) (by kernel_rfl) (by kernel_rfl) (by intro _ _ _ h; exact h) (Or.inl ⟨by rfl, ?_⟩) hHeld ?_
    rotate_left 1
    · intro w hSw; (try dsimp only at hSw); go_simp; try with_reducible rfl
    try simp only [Act.put, List.setIfInBounds_toArray, List.set_cons_zero, List.set_cons_succ]
    refine wpAnyH_take (i := 9) (v := ?_) (by simp only [List.getElem?_toArray, List.getElem?_cons_succ, List.getElem?_cons_zero]; rfl) (by kernel_rfl) (by kernel_rfl) (by kernel_rfl) (by intro _ _ _ h; exact h) (Or.inl ⟨by rfl, ?_⟩) hHeld ?_
    rotate_left 1
    · intro w hSw; (try dsimp only at hSw); go_simp; try with_reducible rfl
    try simp only [Act.put, List.setIfInBounds_toArray, List.set_cons_zero, List.set_cons_succ]
    refine wpAnyH_take (i := 10) (v := ?_) (by simp only [List.getElem?_toArray, List.getElem?_cons_succ, List.getElem?_cons_zero]; rfl) (by kernel_rfl) (by kernel_rfl) (by kernel_rfl) (by intro _ _ _ h; exact h) (Or.inl ⟨by rfl, ?_⟩) hHeld ?_
    rotate_left 1
    · intro w hSw; (try dsimp only at hSw); go_simp; try with_reducible rfl
    try simp only [Act.put, List.setIfInBounds_toArray, List.set_cons_zero, List.set_cons_succ]
    refine wpAnyH_take (i := 11) (v := ?_) (by simp only [List.getElem?_toArray, List.getElem?_cons_succ, List.getElem?_cons_zero]; rfl) (by kernel_rfl) (by kernel_rfl) (by kernel_rfl) (by intro _ _ _ h; exact h) (Or.inl ⟨by rfl, ?_⟩) hHeld ?_
    rotate_left 1
    · intro w hSw; (try dsimp only at hSw); go_simp; try with_reducible rfl
    try simp only [Act.put, List.setIfInBounds_toArray, List.set_cons_zero, List.set_cons_succ]
    refine wpAnyH_done (by kernel_rfl) ?_ _
    have FT_2 := Lib.hid (FT_1.out.below RB1.out (Nat.le_refl _))
    have FP_2 := Lib.hid (FP_1.out.below RB1.out (Nat.le_refl _))
    have FU_2 := Lib.hid (FU_1.out.below RB1.out (Nat.le_refl _))
    have HB2 := Lib.hid (HB1.out.trans (RB1.out.mono HB1.out.size))
    clear hHeld HB1 FT_1 FP_1 FU_1
    clear QF1 RB1; generalize w1.drew = w2 at *
    go_wp2_with fail
    have B : Below w.heap.size w (w2.alloc (.cells #[.int .i64 (X + 5 * N), .int .i64 (Y), .int .i64 (X - 3 * N), .int .i64 (Y + 4 * N), .int .i64 (X), .int .i64 (Y - 5 * N)] 28)) := (HB2.out.alloc HB2.out.size _)
    have C : Below w2.heap.size w2 (w2.alloc (.cells #[.int .i64 (X + 5 * N), .int .i64 (Y), .int .i64 (X - 3 * N), .int .i64 (Y + 4 * N), .int .i64 (X), .int .i64 (Y - 5 * N)] 28)) := ((Below.refl w2.heap.size w2).alloc (Nat.le_refl _) _)
    have X0 : Bx (w2.alloc (.cells #[.int .i64 (X + 5 * N), .int .i64 (Y), .int .i64 (X - 3 * N), .int .i64 (Y + 4 * N), .int .i64 (X), .int .i64 (Y - 5 * N)] 28)) (w2.heap.size) #[.int .i64 (X + 5 * N), .int .i64 (Y), .int .i64 (X - 3 * N), .int .i64 (Y + 4 * N), .int .i64 (X), .int .i64 (Y - 5 * N)] 28 := by simpa using (Bx.new w2 #[.int .i64 (X + 5 * N), .int .i64 (Y), .int .i64 (X - 3 * N), .int .i64 (Y + 4 * N), .int .i64 (X), .int .i64 (Y - 5 * N)] 28)
    have FT_3 := Lib.hid (FT_2.out.below C (Nat.le_refl _))
    have FP_3 := Lib.hid (FP_2.out.below C (Nat.le_refl _))
    have FU_3 := Lib.hid (FU_2.out.below C (Nat.le_refl _))
    have HB3 := Lib.hid B
    have FV_3 := Lib.hid X0
    clear B C X0 HB2 FT_2 FP_2 FU_2
    generalize (w2.alloc (.cells #[.int .i64 (X + 5 * N), .int .i64 (Y), .int .i64 (X - 3 * N), .int .i64 (Y + 4 * N), .int .i64 (X), .int .i64 (Y - 5 * N)] 28)) = w3 at *
    have RB3 := Lib.hid (below_drew0 w3)
    have QF3 := Lib.hid (show ∀ w', Below w3.heap.size w3 w' → w'.cell? ⟨w.heap.size + 1, 0, none⟩ = some (.int .i32 a2) ∧ w'.cell? ⟨w.heap.size + 1, 1, none⟩ = some (.int .i32 b2) from fun w' hb => ⟨(FU_3.out.below hb (Nat.le_refl _)).cell 0 (v := .int .i32 a2) rfl, (FU_3.out.below hb (Nat.le_refl _)).cell 1 (v := .int .i32 b2) rfl⟩)
    refine wp_region_held_drew (S := fun w' => w'.cell? ⟨w.heap.size + 1, 0, none⟩ = some (.int .i32 a2) ∧ w'.cell? ⟨w.heap.size + 1, 1, none⟩ = some (.int .i32 b2)) (by kernel_rfl) (QF3.out _ RB3.out) (fun hHeld => ?_)
    refine wpAnyH_take (i := 0) (v := ?_) (by simp only [List.getElem?_toArray, List.getElem?_cons_succ, List.getElem?_cons_zero]; rfl) (by kernel_rfl) (by kernel_rfl) (by kernel_rfl) (by intro _ _ _ h; exact h) (Or.inl ⟨by rfl, ?_⟩) hHeld ?_
    rotate_left 1
    · intro w hSw; (try dsimp only at hSw); go_simp; try with_reducible rfl
    try simp only [Act.put, List.setIfInBounds_toArray, List.set_cons_zero, List.set_cons_succ]
    refine wpAnyH_take (i := 1) (v := ?_) (by simp only [List.getElem?_toArray, List.getElem?_cons_succ, List.getElem?_cons_zero]; rfl) (by kernel_rfl) (by kernel_rfl) (by kernel_rfl) (by intro _ _ _ h; exact h) (Or.inl ⟨by rfl, ?_⟩) hHeld ?_
    rotate_left 1
    · intro w hSw; (try dsimp only at hSw); go_simp; try with_reducible rfl
    try simp only [Act.put, List.setIfInBounds_toArray, List.set_cons_zero, List.set_cons_succ]
    refine wpAnyH_take (i := 2) (v := ?_) (by simp only [List.getElem?_toArray, List.getElem?_cons_succ, List.getElem?_cons_zero]; rfl) (by kernel_rfl) (by kernel_rfl) (by kernel_rfl) (by intro _ _ _ h; exact h) (Or.inl ⟨by rfl, ?_⟩) hHeld ?_
    rotate_left 1
    · intro w hSw; (try dsimp only at hSw); go_simp; try with_reducible rfl
    try simp only [Act.put, List.setIfInBounds_toArray, List.set_cons_zero, List.set_cons_succ]
    refine wpAnyH_take (i := 3) (v := ?_) (by simp only [List.getElem?_toArray, List.getElem?_cons_succ, List.getElem?_cons_zero]; rfl) (by kernel_rfl) (by kernel_rfl) (by kernel_rfl) (by intro _ _ _ h; exact h) (Or.inl ⟨by rfl, ?_⟩) hHeld ?_
    rotate_left 1
    · intro w hSw; (try dsimp only at hSw); go_simp; try with_reducible rfl
    try simp only [Act.put, List.setIfInBounds_toArray, List.set_cons_zero, List.set_cons_succ]
    refine wpAnyH_take (i := 4) (v := ?_) (by simp only [List.getElem?_toArray, List.getElem?_cons_succ, List.getElem?_cons_zero]; rfl) (by kernel_rfl) (by kernel_rfl) (by kernel_rfl) (by intro _ _ _ h; exact h) (Or.inl ⟨by rfl, ?_⟩) hHeld ?_
    rotate_left 1
    · intro w hSw; (try dsimp only at hSw); go_simp; try with_reducible rfl
    try simp only [Act.put, List.setIfInBounds_toArray, List.set_cons_zero, List.set_cons_succ]
    refine wpAnyH_take (i := 5) (v := ?_) (by simp only [List.getElem?_toArray, List.getElem?_cons_succ, List.getElem?_cons_zero]; rfl) (by kernel_rfl) (by kernel_rfl) (by kernel_rfl) (by intro _ _ _ h; exact h) (Or.inl ⟨by rfl, ?_⟩) hHeld ?_
    rotate_left 1
    · intro w hSw; (try dsimp only at hSw); go_simp; try with_reducible rfl
    try simp only [Act.put, List.setIfInBounds_toArray, List.set_cons_zero, List.set_cons_succ]
    refine wpAnyH_take (i := 6) (v := ?_) (by simp only [List.getElem?_toArray, List.getElem?_cons_succ, List.getElem?_cons_zero]; rfl) (by kernel_rfl) (by kernel_rfl) (by kernel_rfl) (by intro _ _ _ h; exact h) (Or.inl ⟨by rfl, ?_⟩) hHeld ?_
    rotate_left 1
    · intro w hSw; (try dsimp only at hSw); go_simp; try with_reducible rfl
    try simp only [Act.put, List.setIfInBounds_toArray, List.set_cons_zero, List.set_cons_succ]
    refine wpAnyH_take (i := 7) (v := ?_) (by simp only [List.getElem?_toArray, List.getElem?_cons_succ, List.getElem?_cons_zero]; rfl) (by kernel_rfl) (by kernel_rfl) (by kernel_rfl) (by intro _ _ _ h; exact h) (Or.inl ⟨by rfl, ?_⟩) hHeld ?_
    rotate_left 1
    · intro w hSw; (try dsimp only at hSw); go_simp; try with_reducible rfl
    try simp only [Act.put, List.setIfInBounds_toArray, List.set_cons_zero, List.set_cons_succ]
    refine wpAnyH_take (i := 8) (v := ?_) (by simp only [List.getElem?_toArray, List.getElem?_cons_succ, List.getElem?_cons_zero]; rfl) (by kernel_rfl) (by kernel_rfl) (by kernel_rfl) (by intro _ _ _ h; exact h) (Or.inl ⟨by rfl, ?_⟩) hHeld ?_
    rotate_left 1
    · intro w hSw; (try dsimp only at hSw); go_simp; try with_reducible rfl
    try simp only [Act.put, List.setIfInBounds_toArray, List.set_cons_zero, List.set_cons_succ]
    refine wpAnyH_take (i := 9) (v := ?_) (by simp only [List.getElem?_toArray, List.getElem?_cons_succ, List.getElem?_cons_zero]; rfl) (by kernel_rfl) (by kernel_rfl) (by kernel_rfl) (by intro _ _ _ h; exact h) (Or.inl ⟨by rfl, ?_⟩) hHeld ?_
    rotate_left 1
    · intro w hSw; (try dsimp only at hSw); go_simp; try with_reducible rfl
    try simp only [Act.put, List.setIfInBounds_toArray, List.set_cons_zero, List.set_cons_succ]
    refine wpAnyH_done (by kernel_rfl) ?_ _
    have FT_4 := Lib.hid (FT_3.out.below RB3.out (Nat.le_refl _))
    have FP_4 := Lib.hid (FP_3.out.below RB3.out (Nat.le_refl _))
    have FU_4 := Lib.hid (FU_3.out.below RB3.out (Nat.le_refl _))
    have FV_4 := Lib.hid (FV_3.out.below RB3.out (Nat.le_refl _))
    have HB4 := Lib.hid (HB3.out.trans (RB3.out.mono HB3.out.size))
    clear hHeld HB3 FT_3 FP_3 FU_3 FV_3
    clear QF3 RB3; generalize w3.drew = w4 at *
    go_wp2_with fail
    refine (alive15 _ FT_4.out).mono ?_
    rintro e w5 ⟨rfl, B⟩
    have HB5 := Lib.hid (HB4.out.trans (B.mono HB4.out.size))
    have FT_5 := Lib.hid (FT_4.out.below B (Nat.le_refl _))
    have FP_5 := Lib.hid (FP_4.out.below B (Nat.le_refl _))
    have FU_5 := Lib.hid (FU_4.out.below B (Nat.le_refl _))
    have FV_5 := Lib.hid (FV_4.out.below B (Nat.le_refl _))
    clear B  HB4 FT_4 FP_4 FU_4 FV_4
    go_wp2_with fail
    refine (disc_Valid3 _ 3 (X + 5 * N) (Y) (X - 3 * N) (Y + 4 * N) (X) (Y - 5 * N) hp3 _ FT_5.out FV_5.out.t3).mono ?_
    rintro e w6 ⟨rfl, B⟩
    have HB6 := Lib.hid (HB5.out.trans (B.mono HB5.out.size))
    have FT_6 := Lib.hid (FT_5.out.below B (Nat.le_refl _))
    have FP_6 := Lib.hid (FP_5.out.below B (Nat.le_refl _))
    have FU_6 := Lib.hid (FU_5.out.below B (Nat.le_refl _))
    have FV_6 := Lib.hid (FV_5.out.below B (Nat.le_refl _))
    clear B  HB5 FT_5 FP_5 FU_5 FV_5
    rw [hval.out]
    go_wp2_with fail
    refine (disc_Locate3 _ 3 (X + 5 * N) (Y) (X - 3 * N) (Y + 4 * N) (X) (Y - 5 * N) (X + U) (Y + V) hp4 _ FT_6.out FV_6.out.t3).mono ?_
    rintro e w7 ⟨rfl, B⟩
    have HB7 := Lib.hid (HB6.out.trans (B.mono HB6.out.size))
    have FT_7 := Lib.hid (FT_6.out.below B (Nat.le_refl _))
    have FP_7 := Lib.hid (FP_6.out.below B (Nat.le_refl _))
    have FU_7 := Lib.hid (FU_6.out.below B (Nat.le_refl _))
    have FV_7 := Lib.hid (FV_6.out.below B (Nat.le_refl _))
    clear B  HB6 FT_6 FP_6 FU_6 FV_6
    rw [hloc.out, HS.out]
    go_wp2_with fail
    go_ret
    exact ⟨rfl, HB7.out⟩

theorem gTab0 : Tryd.prog.globalNamed "geofence/mask.words" = some 0 := by kernel_rfl
theorem gTabType0 : (Tryd.prog.globals[0]?).map (·.type) = some 93 := by kernel_rfl
theorem cellsT0 : Tryd.prog.cellsOf 93 = 2 := by kernel_rfl
theorem cellsE0 : Tryd.prog.cellsOf 23 = 1 := by kernel_rfl
theorem tableIs0 {W : World} (h : laidMetH Tryd.prog Rows.discRadiusRow.laid W) : Lib.TabIs Tryd.prog W "geofence/mask.words" .u64 [9223372036854775808, 18446744073709551615] :=
  Lib.tabIs_of_head (rest := _) gTab0 gTabType0 Tryd.underlying93 Tryd.underlying23 cellsE0 cellsT0 h
theorem table0 {W : World} (h : laidMetH Tryd.prog Rows.discRadiusRow.laid W) : TabM W := ⟨(tableIs0 h).cell gTab0 0 (by decide), (tableIs0 h).cell gTab0 1 (by decide)⟩

set_option maxRecDepth 100000 in
theorem contract (H : Type) (enc : TypeId × Value → H) (W : World) (base : Nat) (args : Array Value) (ds gs : List (DataW H)) (before : List MemPlace)
    (hval : ∀ (j : Nat) t v, Tryd.f13.params[j]? = some t → args[j]? = some v → Value.okWide Tryd.prog W .any base t v)
    (hW : DataW.Whole enc Tryd.prog Tryd.f13.params.toList Rows.discRadiusSpec.vars false W args.toList ds gs before) (hL : laidMetH Tryd.prog Rows.discRadiusRow.laid W) :
    Calls Tryd.prog 13 args W fun e W' => ∃ v, e = .returned v ∧ Rows.discRadiusSpec.post enc Tryd.prog Tryd.f13 false true false false W args v W' := by
  have hW' := hW
  obtain ⟨p, q, hA0, hV, rfl, hfz, hnd⟩ := hW
  have hA : DataW.TrodAll enc Tryd.prog W 0 (fun _ => true) true Tryd.f13.params.toList args.toList ds p := hA0
  rw [Tryd.params13] at hA hval
  obtain ⟨v0, vs0, d0, ds0, p0, q0, hargs, rfl, rfl, h0, r0⟩ := trodAll_cons hA
  obtain ⟨v1, vs1, d1, ds1, p1, q1, rfl, rfl, rfl, h1, r1⟩ := trodAll_cons r0
  obtain ⟨v2, vs2, d2, ds2, p2, q2, rfl, rfl, rfl, h2, r2⟩ := trodAll_cons r1
  obtain ⟨rfl, rfl, rfl⟩ := trodAll_nil r2
  obtain rfl : args = #[v0, v1, v2] := by cases args; simp_all
  obtain ⟨rfl, rfl⟩ := trodVars_none hV
  have k0 := h0
  have lt0 : ∀ x ∈ p0, x.block < W.heap.size := by obtain ⟨m, hm⟩ := k0; exact DataW.trod_lt m _ _ _ hm
  have k1 := h1
  have lt1 : ∀ x ∈ p1, x.block < W.heap.size := by obtain ⟨m, hm⟩ := k1; exact DataW.trod_lt m _ _ _ hm
  have k2 := h2
  have lt2 : ∀ x ∈ p2, x.block < W.heap.size := by obtain ⟨m, hm⟩ := k2; exact DataW.trod_lt m _ _ _ hm
  obtain ⟨a0, b0, rfl, w0, x0⟩ := Op.open_pt Tryd.underlying28 rfl rfl rfl rfl Tryd.underlying2 (by kernel_rfl) (by kernel_rfl) h0
  obtain ⟨a1, rfl, rfl, rfl, w1⟩ := open_int Tryd.underlying44 (hval 1 44 v1 rfl rfl) h1
  obtain ⟨a2, b2, rfl, w2, x2⟩ := Op.open_two Tryd.underlying45 Tryd.underlying21 (by kernel_rfl) (by kernel_rfl) h2
  clear hA0
  refine (walk a0 b0 w0 x0 a1 w1 a2 b2 w2 x2 (table0 hL)).mono fun e W' ⟨he, bel⟩ => ?_
  subst he
  exact ⟨_, rfl, _, _, _, [], _, [], hW', trodAll_mk1 (shut_bool Tryd.underlying4 _), (trodAll_cons_mk (Below.trod laidOut (by kernel_rfl) (of_decide_eq_true (by kernel_rfl)) k0 bel lt0) (trodAll_cons_mk (Below.trod laidOut (by kernel_rfl) (of_decide_eq_true (by kernel_rfl)) k1 bel lt1) (trodAll_cons_mk (Below.trod laidOut (by kernel_rfl) (of_decide_eq_true (by kernel_rfl)) k2 bel lt2) trodAll_mk0))), rfl, bel.frame _, fun h => by cases h⟩

theorem joined : joinedFacts Tryd.prog 13 Tryd.f13 (OpenSpec.ofChange Rows.discRadiusSpec).bare Rows.discRadiusRow = true := by
  have e1 := enterIs
  have e2 := liftsIs
  have e3 := makeIs
  generalize hP : Tryd.prog = P at *
  unfold joinedFacts
  simp only [Bool.and_eq_true]
  repeat' apply And.intro
  all_goals first
    | with_reducible exact e1
    | (rw [e2]; kernel_rfl)
    | (rw [e3]; kernel_rfl)
    | (subst hP; kernel_rfl)

noncomputable def laidHeap (os : Os) : Array Obj :=
  (World.holding Tryd.prog os ⟨#[], #[], []⟩).heap.modify 0 (fun
      | .cells _ t frozen => .cells #[.int .u64 9223372036854775808, .int .u64 18446744073709551615] t frozen
      | o => o)
noncomputable def laidWorld (os : Os) : World :=
  { World.holding Tryd.prog os ⟨#[], #[], []⟩ with heap := laidHeap os }
theorem laid_met (os : Os) : laidMet Tryd.prog Rows.discRadiusRow.laid ((laidWorld os).forCall (fun _ _ => 0) ⟨#[], #[.agg #[.int .i64 0, .int .i64 0], .int .u16 0, .agg #[.int .i32 0, .int .i32 0]], []⟩).memory :=
  laidMet_of_run' 8 (by kernel_rfl) (by kernel_rfl)
theorem reads (os : Os) {H : Type} (enc : TypeId × Value → H) : ∃ places, DataW.whole enc Tryd.prog ((laidWorld os).forCall (fun _ _ => 0) ⟨#[], #[.agg #[.int .i64 0, .int .i64 0], .int .u16 0, .agg #[.int .i32 0, .int .i32 0]], []⟩).memory Tryd.f13.params.toList Rows.discRadiusSpec.vars false (#[.agg #[.int .i64 0, .int .i64 0], .int .u16 0, .agg #[.int .i32 0, .int .i32 0]] : Array Value).toList 8 = some ([.agg [.lit (.int .i64 0), .lit (.int .i64 0)], .lit (.int .u16 0), .agg [.lit (.int .i32 0), .lit (.int .i32 0)]], [], places) :=
  ⟨[], by kernel_rfl⟩

set_option maxRecDepth 100000 in
theorem lifted (os : Os) (started : os.Started) (H : Type) (enc : TypeId × Value → H) (F : Stop.Interp) :
    ReturnsInHanded {} Tryd.checked os 13 .any ((OpenSpec.ofChange Rows.discRadiusSpec).preRow enc Tryd.prog Tryd.f13 Rows.discRadiusRow.domain false Rows.discRadiusRow.laid) (((OpenSpec.ofChange Rows.discRadiusSpec).at F).post enc Tryd.prog Tryd.f13 false true false false) := by
  obtain ⟨places, hx⟩ := reads os enc
  refine returnsInHanded_of_row (C := Tryd.checked) (s := OpenSpec.ofChange Rows.discRadiusSpec) own started (by kernel_rfl) Tryd.func13
    (witness_row_at (enc := enc) (C := Tryd.checked) false (laidWorld os) #[.agg #[.int .i64 0, .int .i64 0], .int .u16 0, .agg #[.int .i32 0, .int .i32 0]] rfl (by kernel_rfl) (by kernel_rfl) (by kernel_rfl)
      (OpenSpec.preRow_of_cond 8 hx (by kernel_rfl) (fun k hk => by cases hk) (by kernel_rfl) (laid_met os))) ?_
  intro W base args ds gs before hval hW _ _ _ hL _ _
  exact contract H enc W base args ds gs before hval hW hL

theorem said : Rows.DiscRadiusSaid :=
  OpenClaim.holds_of_cond 13 Tryd.f13 rfl rfl rfl rfl rfl rfl rfl ⟨rfl, rfl, rfl, rfl, rfl⟩ rfl rfl rfl rfl rfl (by kernel_rfl) Tryd.func13 (joined)
    (of_decide_eq_true (by kernel_rfl)) (by unfold Func.isWrapper; first | (rw [if_pos (by decide +kernel)]; kernel_rfl) | (rw [if_neg (by decide +kernel)]; exact ⟨rfl, rfl⟩))
    (fun os started H enc _ F => by rw [OpenClaim.pre_eq_preRow]; exact lifted os started H enc F)

theorem plain (f : FuncId) (fn : Func) (hf : Tryd.pinned.checked.prog.funcNamed "geofence/geofencelaw15.DiscRadius" = some f) (hfn : Tryd.pinned.checked.prog.funcs[f]? = some fn) :
    false = Tryd.pinned.checked.prog.looks [] ∧ ∀ (j : Nat) t, fn.params[j]? = some t → Tryd.pinned.checked.prog.wantsStandIn t = false := by
  obtain rfl : f = 13 := Option.some.inj ((show Tryd.prog.funcNamed "geofence/geofencelaw15.DiscRadius" = some 13 by kernel_rfl).symm.trans hf) |>.symm
  obtain rfl : fn = Tryd.f13 := (Option.some.inj (Tryd.func13.symm.trans hfn)).symm
  refine ⟨by kernel_rfl, fun j t ht => ?_⟩
  rw [Tryd.params13] at ht
  have hm := Array.mem_of_getElem? ht
  simp at hm
  rcases hm with rfl | rfl | rfl
  · exact (show Tryd.prog.wantsStandIn 28 = false by kernel_rfl)
  · exact (show Tryd.prog.wantsStandIn 44 = false by kernel_rfl)
  · exact (show Tryd.prog.wantsStandIn 45 = false by kernel_rfl)

/-- THE CARD -/
theorem card : Rows.DiscRadiusCardSaid :=
  Claim7.holds_tied_plain_at .later [] _ _ _ _ said (fun _ h => by cases h) (by kernel_rfl) (fun _ h => by cases h) discRadius_row_tie rfl ⟨rfl, rfl⟩ (mainText) rfl plain (by kernel_rfl)
#print axioms card
end Go.Proofs.YtoikcgmdlccdbaaDoor.discRadius
