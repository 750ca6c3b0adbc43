/- Contracts of package disc, without a tape. -/
import Derived.Test.YtoikcgmdlccdbaaDoorPts
import Derived.Test.YtoikcgmdlccdbaaDoorCircle
import Derived.Test.YtoikcgmdlccdbaaDoorOrient
namespace Go.Proofs.YtoikcgmdlccdbaaDoor
set_option linter.unusedVariables false
set_option linter.unusedSimpArgs false
open Go.RowKit Wd

theorem info_pt : (Tryd.prog.info? 28).map (·.size) = some 2 := by kernel_rfl
theorem not_msk (b : Bool) : bits .xor .u64 IntKind.u64.max (msk b) = msk (!b) := by cases b <;> rfl
theorem sg_w0 (x : Int) : decide (IntKind.u64.wrap (sg x) = 0) = decide (x = 0) := by
  rw [decide_eq_decide, wrapU]; unfold lo sg
  rcases (by omega : x < 0 ∨ x = 0 ∨ 0 < x) with h | h | h
  · rw [Int.sign_eq_neg_one_of_neg h]; omega
  · subst h; simp
  · rw [Int.sign_eq_one_of_pos h]; omega
theorem tape_Note_nil (k a b : Int) (w : World) :
    Calls Tryd.prog 62 #[.pointer none, .int .i64 k, .int .i64 a, .int .i64 b] w fun e w' => e = .returned (.tuple #[]) ∧ w = w' := by
  go_enter Tryd.func62, Tryd.ntmps62
  go_wp2
  exact bodyPost_ret (results_none rfl _ _ _) rfl ⟨rfl, rfl⟩
set_option maxHeartbeats 4000000 in
theorem disc_from3 (A : Option Addr) (c : Nat) (ax ay bx b_ cx cy : Int) (w : World) (h3 : T3 w A c ax ay bx b_ cx cy) :
    Calls Tryd.prog 61 #[.slice A 3 c] w fun e w' => e = .returned (.tuple #[.agg #[.int .i64 ax, .int .i64 ay, .int .i64 bx, .int .i64 b_, .int .i64 cx, .int .i64 cy], .bool true]) ∧ Below w.heap.size w w' := by
  have h3' := (h3.alloc (.cells #[.int .i64 0, .int .i64 0, .int .i64 0, .int .i64 0, .int .i64 0, .int .i64 0] 69)).alloc (.cells #[.int .i64 0, .int .i64 0, .int .i64 0, .int .i64 0, .int .i64 0, .int .i64 0] 69)
  obtain ⟨b, off, rfl, hc6⟩ := h3'.at_
  have HS := Lib.hid hc6.src
  clear hc6 h3' h3
  have HZ := Lib.hid (Bx.new (w.alloc (.cells #[.int .i64 0, .int .i64 0, .int .i64 0, .int .i64 0, .int .i64 0, .int .i64 0] 69)) #[.int .i64 0, .int .i64 0, .int .i64 0, .int .i64 0, .int .i64 0, .int .i64 0] 69)
  have HY := Lib.hid ((Bx.new w #[.int .i64 0, .int .i64 0, .int .i64 0, .int .i64 0, .int .i64 0, .int .i64 0] 69).alloc (.cells #[.int .i64 0, .int .i64 0, .int .i64 0, .int .i64 0, .int .i64 0, .int .i64 0] 69))
  have HB := Lib.hid (((Below.refl w.heap.size w).alloc (Nat.le_refl _) (.cells #[.int .i64 0, .int .i64 0, .int .i64 0, .int .i64 0, .int .i64 0, .int .i64 0] 69)).alloc (by simp) (.cells #[.int .i64 0, .int .i64 0, .int .i64 0, .int .i64 0, .int .i64 0, .int .i64 0] 69))
  obtain ⟨w2, hrun, h1, h2, hb2⟩ := copy2_ex (P := Tryd.prog) _ 35 35 3 28 Tryd.underlying35 info_pt (w.heap.size + 1) 3 3 ⟨b, off, none⟩ 3 c 3 #[.int .i64 0, .int .i64 0, .int .i64 0, .int .i64 0, .int .i64 0, .int .i64 0] 69 (by simpa using HZ.out) [.int .i64 ax, .int .i64 ay, .int .i64 bx, .int .i64 b_, .int .i64 cx, .int .i64 cy] rfl rfl HS.out rfl (by simp [Value.oneCell']) w.heap.size w HB.out (by omega)
  have H1 := Lib.hid h1; have H2 := Lib.hid h2; have HB3 := Lib.hid hb2
  clear h1 h2 hb2 HS HZ HB
  have p0 := H1.out.cell 0 (v := .int .i64 ax) rfl
  have p1 := H1.out.cell 1 (v := .int .i64 ay) rfl
  have p2 := H1.out.cell 2 (v := .int .i64 bx) rfl
  have p3 := H1.out.cell 3 (v := .int .i64 b_) rfl
  have p4 := H1.out.cell 4 (v := .int .i64 cx) rfl
  have p5 := H1.out.cell 5 (v := .int .i64 cy) rfl
  have R := Lib.hid (show Bx w2 w.heap.size #[.int .i64 0, .int .i64 0, .int .i64 0, .int .i64 0, .int .i64 0, .int .i64 0] 69 from (H2.out w.heap.size (by omega)).trans HY.out)
  have q0 := R.out.cell 0 (v := .int .i64 0) rfl; have z0 := R.out.free 0
  have q1 := R.out.cell 1 (v := .int .i64 0) rfl; have z1 := R.out.free 1
  have q2 := R.out.cell 2 (v := .int .i64 0) rfl; have z2 := R.out.free 2
  have q3 := R.out.cell 3 (v := .int .i64 0) rfl; have z3 := R.out.free 3
  have q4 := R.out.cell 4 (v := .int .i64 0) rfl; have z4 := R.out.free 4
  have q5 := R.out.cell 5 (v := .int .i64 0) rfl; have z5 := R.out.free 5
  clear H1 H2 HY
  have R6 := Lib.hid (bx_set6 (v0 := .int .i64 ax) (v1 := .int .i64 ay) (v2 := .int .i64 bx) (v3 := .int .i64 b_) (v4 := .int .i64 cx) (v5 := .int .i64 cy) R.out)
  have HB4 := Lib.hid (show Below w.heap.size w (((((((w2.setCell ⟨w.heap.size, 0, none⟩ (.int .i64 ax)).setCell ⟨w.heap.size, 1, none⟩ (.int .i64 ay)).setCell ⟨w.heap.size, 2, none⟩ (.int .i64 bx)).setCell ⟨w.heap.size, 3, none⟩ (.int .i64 b_)).setCell ⟨w.heap.size, 4, none⟩ (.int .i64 cx)).setCell ⟨w.heap.size, 5, none⟩ (.int .i64 cy))) from (below_st (Nat.le_refl _) (below_st (Nat.le_refl _) (below_st (Nat.le_refl _) (below_st (Nat.le_refl _) (below_st (Nat.le_refl _) (below_st (Nat.le_refl _) HB3.out)))))))
  go_enter Tryd.func61, Tryd.ntmps61
  go_wp2_with fail
  clear p0 q0 z0 p1 q1 z1 p2 q2 z2 p3 q3 z3 p4 q4 z4 p5 q5 z5 hrun R HB3
  generalize ((((((w2.setCell ⟨w.heap.size, 0, none⟩ (.int .i64 ax)).setCell ⟨w.heap.size, 1, none⟩ (.int .i64 ay)).setCell ⟨w.heap.size, 2, none⟩ (.int .i64 bx)).setCell ⟨w.heap.size, 3, none⟩ (.int .i64 b_)).setCell ⟨w.heap.size, 4, none⟩ (.int .i64 cx)).setCell ⟨w.heap.size, 5, none⟩ (.int .i64 cy)) = w3 at *
  have r0 := R6.out.cell 0 (v := .int .i64 ax) rfl
  have r1 := R6.out.cell 1 (v := .int .i64 ay) rfl
  have r2 := R6.out.cell 2 (v := .int .i64 bx) rfl
  have r3 := R6.out.cell 3 (v := .int .i64 b_) rfl
  have r4 := R6.out.cell 4 (v := .int .i64 cx) rfl
  have r5 := R6.out.cell 5 (v := .int .i64 cy) rfl
  refine bodyPost_ret (v := .tuple #[.agg #[.int .i64 ax, .int .i64 ay, .int .i64 bx, .int .i64 b_, .int .i64 cx, .int .i64 cy], .bool true]) (by simp [results, Tryd.results61, go_sem, r0, r1, r2, r3, r4, r5]) rfl ⟨rfl, HB4.out⟩
set_option maxHeartbeats 4000000 in
theorem disc_fromN (A : Option Addr) (n c : Nat) (hn : n ≠ 3) (w : World) :
    Calls Tryd.prog 61 #[.slice A n c] w fun e w' => e = .returned (.tuple #[.agg #[.int .i64 0, .int .i64 0, .int .i64 0, .int .i64 0, .int .i64 0, .int .i64 0], .bool false]) ∧ Below w.heap.size w w' := by
  have HZ := Lib.hid (Bx.new (w.alloc (.cells #[.int .i64 0, .int .i64 0, .int .i64 0, .int .i64 0, .int .i64 0, .int .i64 0] 69)) #[.int .i64 0, .int .i64 0, .int .i64 0, .int .i64 0, .int .i64 0, .int .i64 0] 69)
  have HY := Lib.hid ((Bx.new w #[.int .i64 0, .int .i64 0, .int .i64 0, .int .i64 0, .int .i64 0, .int .i64 0] 69).alloc (.cells #[.int .i64 0, .int .i64 0, .int .i64 0, .int .i64 0, .int .i64 0, .int .i64 0] 69))
  have HB := Lib.hid (((Below.refl w.heap.size w).alloc (Nat.le_refl _) (.cells #[.int .i64 0, .int .i64 0, .int .i64 0, .int .i64 0, .int .i64 0, .int .i64 0] 69)).alloc (by simp) (.cells #[.int .i64 0, .int .i64 0, .int .i64 0, .int .i64 0, .int .i64 0, .int .i64 0] 69))
  have hn' : ¬ ((n : Int) = 3) := by omega
  have r0 := HY.out.cell 0 (v := .int .i64 0) rfl; have r1 := HY.out.cell 1 (v := .int .i64 0) rfl; have r2 := HY.out.cell 2 (v := .int .i64 0) rfl; have r3 := HY.out.cell 3 (v := .int .i64 0) rfl; have r4 := HY.out.cell 4 (v := .int .i64 0) rfl; have r5 := HY.out.cell 5 (v := .int .i64 0) rfl
  go_enter Tryd.func61, Tryd.ntmps61
  go_wp2
  clear HZ HY
  generalize (w.alloc (.cells #[.int .i64 0, .int .i64 0, .int .i64 0, .int .i64 0, .int .i64 0, .int .i64 0] 69)).alloc (.cells #[.int .i64 0, .int .i64 0, .int .i64 0, .int .i64 0, .int .i64 0, .int .i64 0] 69) = w3 at *
  refine bodyPost_ret (v := .tuple #[.agg #[.int .i64 0, .int .i64 0, .int .i64 0, .int .i64 0, .int .i64 0, .int .i64 0], .bool false]) (by simp [results, Tryd.results61, go_sem, r0, r1, r2, r3, r4, r5]) rfl ⟨rfl, HB.out⟩
set_option maxHeartbeats 4000000 in
theorem disc_Valid3 (A : Option Addr) (c : Nat) (ax ay bx b_ cx cy : Int) (hp : P3 ax ay bx b_ cx cy) (w : World) (hT : TabM w) (h3 : T3 w A c ax ay bx b_ cx cy) :
    Calls Tryd.prog 32 #[.pointer none, .slice A 3 c] w fun e w' => e = .returned (.int .u64 (msk (!decide (det ax ay bx b_ cx cy = 0)))) ∧ Below w.heap.size w w' := by
  have HB0 := Lib.hid (Below.refl w.heap.size w)
  have FT := Lib.hid hT
  have FX := Lib.hid h3
  clear hT h3
  have hnm := not_msk (decide (det ax ay bx b_ cx cy = 0))
  go_enter Tryd.func32, Tryd.ntmps32
  go_wp2_with fail
  refine (disc_from3 A c ax ay bx b_ cx cy _ FX.out).mono ?_
  rintro e w1 ⟨rfl, B⟩
  have HB1 := Lib.hid (HB0.out.trans (B.mono HB0.out.size))
  have FT_1 := Lib.hid (FT.out.below B (Nat.le_refl _))
  have FX_1 := Lib.hid (FX.out.below B (Nat.le_refl _))
  clear B  HB0 FT FX
  go_wp2_with fail
  have B : Below w.heap.size w (w1.alloc (.cells #[.int .i64 ax, .int .i64 ay, .int .i64 bx, .int .i64 b_, .int .i64 cx, .int .i64 cy] 69)) := (HB1.out.alloc HB1.out.size _)
  have C : Below w1.heap.size w1 (w1.alloc (.cells #[.int .i64 ax, .int .i64 ay, .int .i64 bx, .int .i64 b_, .int .i64 cx, .int .i64 cy] 69)) := ((Below.refl w1.heap.size w1).alloc (Nat.le_refl _) _)
  have X0 : Bx (w1.alloc (.cells #[.int .i64 ax, .int .i64 ay, .int .i64 bx, .int .i64 b_, .int .i64 cx, .int .i64 cy] 69)) (w1.heap.size) #[.int .i64 ax, .int .i64 ay, .int .i64 bx, .int .i64 b_, .int .i64 cx, .int .i64 cy] 69 := by simpa using (Bx.new w1 #[.int .i64 ax, .int .i64 ay, .int .i64 bx, .int .i64 b_, .int .i64 cx, .int .i64 cy] 69)
  have FT_2 := Lib.hid (FT_1.out.below C (Nat.le_refl _))
  have HB2 := Lib.hid B
  have FC_2 := Lib.hid X0
  clear B C X0 HB1 FT_1
  generalize (w1.alloc (.cells #[.int .i64 ax, .int .i64 ay, .int .i64 bx, .int .i64 b_, .int .i64 cx, .int .i64 cy] 69)) = w2 at *
  skip
  refine (tape_Note_nil _ _ _ _).mono ?_
  rintro e w3 ⟨rfl, rfl⟩
  have vC0 := FC_2.out.cell 0 (v := .int .i64 ax) rfl
  have vC1 := FC_2.out.cell 1 (v := .int .i64 ay) rfl
  have vC2 := FC_2.out.cell 2 (v := .int .i64 bx) rfl
  have vC3 := FC_2.out.cell 3 (v := .int .i64 b_) rfl
  have vC4 := FC_2.out.cell 4 (v := .int .i64 cx) rfl
  have vC5 := FC_2.out.cell 5 (v := .int .i64 cy) rfl
  go_wp2_with fail
  refine (orient_Sign _ _ _ _ _ _ hp _ FT_2.out).mono ?_
  rintro e w4 ⟨rfl, B⟩
  clear vC0 vC1 vC2 vC3 vC4 vC5
  have HB4 := Lib.hid (HB2.out.trans (B.mono HB2.out.size))
  have FT_4 := Lib.hid (FT_2.out.below B (Nat.le_refl _))
  have FC_4 := Lib.hid (FC_2.out.below B (Nat.le_refl _))
  clear B  HB2 FT_2 FC_2
  go_wp2_with fail
  refine (mask_Zero _ (isW_wrap _) _).mono ?_
  rintro e w5 ⟨rfl, rfl⟩
  rw [sg_w0]
  go_wp2_with fail
  go_ret
  exact ⟨rfl, HB4.out⟩

set_option maxHeartbeats 4000000 in
theorem disc_ValidN (A : Option Addr) (n c : Nat) (hn : n ≠ 3) (w : World) :
    Calls Tryd.prog 32 #[.pointer none, .slice A n c] w fun e w' => e = .returned (.int .u64 (msk false)) ∧ Below w.heap.size w w' := by
  have HB0 := Lib.hid (Below.refl w.heap.size w)
  go_enter Tryd.func32, Tryd.ntmps32
  go_wp2_with fail
  refine (disc_fromN A n c hn _).mono ?_
  rintro e w1 ⟨rfl, B⟩
  have HB1 := Lib.hid (HB0.out.trans (B.mono HB0.out.size))
  clear B  HB0
  go_wp2_with fail
  have B : Below w.heap.size w (w1.alloc (.cells #[.int .i64 0, .int .i64 0, .int .i64 0, .int .i64 0, .int .i64 0, .int .i64 0] 69)) := (HB1.out.alloc HB1.out.size _)
  have C : Below w1.heap.size w1 (w1.alloc (.cells #[.int .i64 0, .int .i64 0, .int .i64 0, .int .i64 0, .int .i64 0, .int .i64 0] 69)) := ((Below.refl w1.heap.size w1).alloc (Nat.le_refl _) _)
  have X0 : Bx (w1.alloc (.cells #[.int .i64 0, .int .i64 0, .int .i64 0, .int .i64 0, .int .i64 0, .int .i64 0] 69)) (w1.heap.size) #[.int .i64 0, .int .i64 0, .int .i64 0, .int .i64 0, .int .i64 0, .int .i64 0] 69 := by simpa using (Bx.new w1 #[.int .i64 0, .int .i64 0, .int .i64 0, .int .i64 0, .int .i64 0, .int .i64 0] 69)
  have HB2 := Lib.hid B
  have FC_2 := Lib.hid X0
  clear B C X0 HB1 
  generalize (w1.alloc (.cells #[.int .i64 0, .int .i64 0, .int .i64 0, .int .i64 0, .int .i64 0, .int .i64 0] 69)) = w2 at *
  go_ret
  exact ⟨rfl, HB2.out⟩

set_option maxHeartbeats 4000000 in
theorem disc_Locate3 (A : Option Addr) (c : Nat) (ax ay bx b_ cx cy dx dy : Int) (hp : P4 ax ay bx b_ cx cy dx dy) (w : World) (hT : TabM w) (h3 : T3 w A c ax ay bx b_ cx cy) :
    Calls Tryd.prog 34 #[.pointer none, .slice A 3 c, .agg #[.int .i64 dx, .int .i64 dy]] w fun e w' => e = .returned (.int .i64 (sg (circ ax ay bx b_ cx cy dx dy) * sg (det ax ay bx b_ cx cy))) ∧ Below w.heap.size w w' := by
  have HB0 := Lib.hid (Below.refl w.heap.size w)
  have FT := Lib.hid hT
  have FX := Lib.hid h3
  clear hT h3
  go_enter Tryd.func34, Tryd.ntmps34
  go_wp2_with fail
  have B : Below w.heap.size w (w.alloc (.cells #[.int .i64 dx, .int .i64 dy] 28)) := (HB0.out.alloc HB0.out.size _)
  have C : Below w.heap.size w (w.alloc (.cells #[.int .i64 dx, .int .i64 dy] 28)) := ((Below.refl w.heap.size w).alloc (Nat.le_refl _) _)
  have X0 : Bx (w.alloc (.cells #[.int .i64 dx, .int .i64 dy] 28)) (w.heap.size) #[.int .i64 dx, .int .i64 dy] 28 := by simpa using (Bx.new w #[.int .i64 dx, .int .i64 dy] 28)
  have FT_1 := Lib.hid (FT.out.below C (Nat.le_refl _))
  have FX_1 := Lib.hid (FX.out.below C (Nat.le_refl _))
  have HB1 := Lib.hid B
  have FP_1 := Lib.hid X0
  clear B C X0 HB0 FT FX
  generalize (w.alloc (.cells #[.int .i64 dx, .int .i64 dy] 28)) = w1 at *
  skip
  refine (disc_from3 A c ax ay bx b_ cx cy _ FX_1.out).mono ?_
  rintro e w2 ⟨rfl, B⟩
  have HB2 := Lib.hid (HB1.out.trans (B.mono HB1.out.size))
  have FT_2 := Lib.hid (FT_1.out.below B (Nat.le_refl _))
  have FX_2 := Lib.hid (FX_1.out.below B (Nat.le_refl _))
  have FP_2 := Lib.hid (FP_1.out.below B (Nat.le_refl _))
  clear B  HB1 FT_1 FX_1 FP_1
  go_wp2_with fail
  have B : Below w.heap.size w (w2.alloc (.cells #[.int .i64 ax, .int .i64 ay, .int .i64 bx, .int .i64 b_, .int .i64 cx, .int .i64 cy] 69)) := (HB2.out.alloc HB2.out.size _)
  have C : Below w2.heap.size w2 (w2.alloc (.cells #[.int .i64 ax, .int .i64 ay, .int .i64 bx, .int .i64 b_, .int .i64 cx, .int .i64 cy] 69)) := ((Below.refl w2.heap.size w2).alloc (Nat.le_refl _) _)
  have X0 : Bx (w2.alloc (.cells #[.int .i64 ax, .int .i64 ay, .int .i64 bx, .int .i64 b_, .int .i64 cx, .int .i64 cy] 69)) (w2.heap.size) #[.int .i64 ax, .int .i64 ay, .int .i64 bx, .int .i64 b_, .int .i64 cx, .int .i64 cy] 69 := by simpa using (Bx.new w2 #[.int .i64 ax, .int .i64 ay, .int .i64 bx, .int .i64 b_, .int .i64 cx, .int .i64 cy] 69)
  have FT_3 := Lib.hid (FT_2.out.below C (Nat.le_refl _))
  have FP_3 := Lib.hid (FP_2.out.below C (Nat.le_refl _))
  have HB3 := Lib.hid B
  have FC_3 := Lib.hid X0
  clear B C X0 HB2 FT_2 FP_2
  generalize (w2.alloc (.cells #[.int .i64 ax, .int .i64 ay, .int .i64 bx, .int .i64 b_, .int .i64 cx, .int .i64 cy] 69)) = w3 at *
  skip
  refine (tape_Note_nil _ _ _ _).mono ?_
  rintro e w4 ⟨rfl, rfl⟩
  have vC0 := FC_3.out.cell 0 (v := .int .i64 ax) rfl
  have vC1 := FC_3.out.cell 1 (v := .int .i64 ay) rfl
  have vC2 := FC_3.out.cell 2 (v := .int .i64 bx) rfl
  have vC3 := FC_3.out.cell 3 (v := .int .i64 b_) rfl
  have vC4 := FC_3.out.cell 4 (v := .int .i64 cx) rfl
  have vC5 := FC_3.out.cell 5 (v := .int .i64 cy) rfl
  have vP0 := FP_3.out.cell 0 (v := .int .i64 dx) rfl
  have vP1 := FP_3.out.cell 1 (v := .int .i64 dy) rfl
  go_wp2_with fail
  refine (circle_Side _ _ _ _ _ _ _ _ hp _ FT_3.out).mono ?_
  rintro e w5 ⟨rfl, B⟩
  clear vC0 vC1 vC2 vC3 vC4 vC5 vP0 vP1
  have HB5 := Lib.hid (HB3.out.trans (B.mono HB3.out.size))
  have FT_5 := Lib.hid (FT_3.out.below B (Nat.le_refl _))
  have FP_5 := Lib.hid (FP_3.out.below B (Nat.le_refl _))
  have FC_5 := Lib.hid (FC_3.out.below B (Nat.le_refl _))
  clear B  HB3 FT_3 FP_3 FC_3
  have vC0 := FC_5.out.cell 0 (v := .int .i64 ax) rfl
  have vC1 := FC_5.out.cell 1 (v := .int .i64 ay) rfl
  have vC2 := FC_5.out.cell 2 (v := .int .i64 bx) rfl
  have vC3 := FC_5.out.cell 3 (v := .int .i64 b_) rfl
  have vC4 := FC_5.out.cell 4 (v := .int .i64 cx) rfl
  have vC5 := FC_5.out.cell 5 (v := .int .i64 cy) rfl
  have vP0 := FP_5.out.cell 0 (v := .int .i64 dx) rfl
  have vP1 := FP_5.out.cell 1 (v := .int .i64 dy) rfl
  go_wp2_with fail
  go_ret
  exact ⟨rfl, HB5.out⟩

set_option maxHeartbeats 4000000 in
theorem disc_LocateN (A : Option Addr) (n c : Nat) (hn : n ≠ 3) (dx dy : Int) (w : World) :
    Calls Tryd.prog 34 #[.pointer none, .slice A n c, .agg #[.int .i64 dx, .int .i64 dy]] w fun e w' => e = .returned (.int .i64 (-1)) ∧ Below w.heap.size w w' := by
  have HB0 := Lib.hid (Below.refl w.heap.size w)
  go_enter Tryd.func34, Tryd.ntmps34
  go_wp2_with fail
  have B : Below w.heap.size w (w.alloc (.cells #[.int .i64 dx, .int .i64 dy] 28)) := (HB0.out.alloc HB0.out.size _)
  have C : Below w.heap.size w (w.alloc (.cells #[.int .i64 dx, .int .i64 dy] 28)) := ((Below.refl w.heap.size w).alloc (Nat.le_refl _) _)
  have X0 : Bx (w.alloc (.cells #[.int .i64 dx, .int .i64 dy] 28)) (w.heap.size) #[.int .i64 dx, .int .i64 dy] 28 := by simpa using (Bx.new w #[.int .i64 dx, .int .i64 dy] 28)
  have HB1 := Lib.hid B
  have FP_1 := Lib.hid X0
  clear B C X0 HB0 
  generalize (w.alloc (.cells #[.int .i64 dx, .int .i64 dy] 28)) = w1 at *
  skip
  refine (disc_fromN A n c hn _).mono ?_
  rintro e w2 ⟨rfl, B⟩
  have HB2 := Lib.hid (HB1.out.trans (B.mono HB1.out.size))
  have FP_2 := Lib.hid (FP_1.out.below B (Nat.le_refl _))
  clear B  HB1 FP_1
  go_wp2_with fail
  have B : Below w.heap.size w (w2.alloc (.cells #[.int .i64 0, .int .i64 0, .int .i64 0, .int .i64 0, .int .i64 0, .int .i64 0] 69)) := (HB2.out.alloc HB2.out.size _)
  have C : Below w2.heap.size w2 (w2.alloc (.cells #[.int .i64 0, .int .i64 0, .int .i64 0, .int .i64 0, .int .i64 0, .int .i64 0] 69)) := ((Below.refl w2.heap.size w2).alloc (Nat.le_refl _) _)
  have X0 : Bx (w2.alloc (.cells #[.int .i64 0, .int .i64 0, .int .i64 0, .int .i64 0, .int .i64 0, .int .i64 0] 69)) (w2.heap.size) #[.int .i64 0, .int .i64 0, .int .i64 0, .int .i64 0, .int .i64 0, .int .i64 0] 69 := by simpa using (Bx.new w2 #[.int .i64 0, .int .i64 0, .int .i64 0, .int .i64 0, .int .i64 0, .int .i64 0] 69)
  have FP_3 := Lib.hid (FP_2.out.below C (Nat.le_refl _))
  have HB3 := Lib.hid B
  have FC_3 := Lib.hid X0
  clear B C X0 HB2 FP_2
  generalize (w2.alloc (.cells #[.int .i64 0, .int .i64 0, .int .i64 0, .int .i64 0, .int .i64 0, .int .i64 0] 69)) = w3 at *
  go_ret
  exact ⟨rfl, HB3.out⟩

end Go.Proofs.YtoikcgmdlccdbaaDoor
