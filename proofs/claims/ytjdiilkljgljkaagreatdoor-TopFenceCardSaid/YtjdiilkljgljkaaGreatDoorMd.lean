/- Contracts of package circle: the lifted determinant, its sign, the side. Polygons over the integers: validity and positions, in plain Lean. No program's run. Contracts of the engine's operations 1 and 2: orientation, circle. Contract of the engine's Answer at operations 1 and 2. Contracts of the codec's isAnswer and Respond, and of serve's Handle, at operations 1 and 2. -/
import Derived.Test.YtjdiilkljgljkaaGreatDoorMc
import Derived.Deep.DeepCutAuto
import Derived.Test.YtjdiilkljgljkaaGreatDoorMa
import Derived.Test.YtjdiilkljgljkaaGreatDoorMb
import Derived.Deep.RegionHeld3
import Derived.Laws.EntriesVeiled
namespace Go.Proofs.YtjdiilkljgljkaaGreatDoor
set_option linter.unusedVariables false
set_option linter.unusedSimpArgs false
open Go.RowKit Wd

theorem nrm_fit {ax ay dx dy : Int} (h1 : IsI ax) (h2 : IsI ay) (h5 : IsI dx) (h6 : IsI dy) : Fit 3 (nrm ax ay dx dy) := fit3_of (by have := nrm_bd h1 h2 h5 h6; omega)
theorem mnr_fit {bx b_ cx cy dx dy : Int} (h1 : IsI bx) (h2 : IsI b_) (h3 : IsI cx) (h4 : IsI cy) (h5 : IsI dx) (h6 : IsI dy) : Fit 3 (mnr bx b_ cx cy dx dy) := fit3_of (mnr_bd h1 h2 h3 h4 h5 h6)
theorem mul_fit6 {x y : Int} (hx : Fit 3 x) (hy : Fit 3 y) : Fit 6 (x * y) := by
  unfold Fit at *
  have h := abs_mul_le (x := 2 * x) (y := 2 * y) (a := S 3) (b := S 3) ⟨by omega, by omega⟩ ⟨by omega, by omega⟩
  have e : 2 * x * (2 * y) = 4 * (x * y) := by grind
  rw [e, ← S_add] at h
  have hS := S_pos 6
  rw [show 3 + 3 = 6 from rfl] at h
  omega
/-- three vectors lie in one box -/
def Cut3V (w : World) (x1 y1 x2 y2 x3 y3 : Int) (s9 : Value) (wx : World) : Prop := ∃ (b : Nat) (U1 : Option Addr) (u1 : Nat) (V1 : Option Addr) (v1 : Nat) (U2 : Option Addr) (u2 : Nat) (V2 : Option Addr) (v2 : Nat) (U3 : Option Addr) (u3 : Nat) (V3 : Option Addr) (v3 : Nat),
  s9 = .pointer (some ⟨b, 0, none⟩) ∧ Bx wx b #[.slice U1 2 u1, .slice V1 2 v1, .slice U2 2 u2, .slice V2 2 v2, .slice U3 2 u3, .slice V3 2 v3] 238 ∧
  Sl wx .u64 U1 2 u1 (lmb x1) ∧ Sl wx .u64 V1 2 v1 (lmb y1) ∧ Sl wx .u64 U2 2 u2 (lmb x2) ∧ Sl wx .u64 V2 2 v2 (lmb y2) ∧ Sl wx .u64 U3 2 u3 (lmb x3) ∧ Sl wx .u64 V3 2 v3 (lmb y3) ∧ Below w.heap.size w wx
set_option maxHeartbeats 8000000 in
theorem circle_Value (ax ay bx b_ cx cy dx dy : Int) (hp : P4 ax ay bx b_ cx cy dx dy) (w : World) :
    Calls Tryz.prog 159 #[.agg #[.int .i64 ax, .int .i64 ay], .agg #[.int .i64 bx, .int .i64 b_], .agg #[.int .i64 cx, .int .i64 cy], .agg #[.int .i64 dx, .int .i64 dy]] w fun e w' => (∃ A c, e = .returned (.slice A 5 c) ∧ Sl w' .u64 A 5 c (lmb (circ ax ay bx b_ cx cy dx dy))) ∧ Below w.heap.size w w' := by
  have HB0 := Lib.hid (Below.refl w.heap.size w)
  go_enter Tryz.func159, Tryz.ntmps159
  go_wp2_with fail
  have B : Below w.heap.size w ((((w.alloc (.cells #[.int .i64 ax, .int .i64 ay] 23)).alloc (.cells #[.int .i64 bx, .int .i64 b_] 23)).alloc (.cells #[.int .i64 cx, .int .i64 cy] 23)).alloc (.cells #[.int .i64 dx, .int .i64 dy] 23)) := ((((HB0.out.alloc HB0.out.size _).alloc (HB0.out.alloc HB0.out.size _).size _).alloc ((HB0.out.alloc HB0.out.size _).alloc (HB0.out.alloc HB0.out.size _).size _).size _).alloc (((HB0.out.alloc HB0.out.size _).alloc (HB0.out.alloc HB0.out.size _).size _).alloc ((HB0.out.alloc HB0.out.size _).alloc (HB0.out.alloc HB0.out.size _).size _).size _).size _)
  have C : Below w.heap.size w ((((w.alloc (.cells #[.int .i64 ax, .int .i64 ay] 23)).alloc (.cells #[.int .i64 bx, .int .i64 b_] 23)).alloc (.cells #[.int .i64 cx, .int .i64 cy] 23)).alloc (.cells #[.int .i64 dx, .int .i64 dy] 23)) := (((((Below.refl w.heap.size w).alloc (Nat.le_refl _) _).alloc (by simp; try omega) _).alloc (by simp; try omega) _).alloc (by simp; try omega) _)
  have X0 : Bx ((((w.alloc (.cells #[.int .i64 ax, .int .i64 ay] 23)).alloc (.cells #[.int .i64 bx, .int .i64 b_] 23)).alloc (.cells #[.int .i64 cx, .int .i64 cy] 23)).alloc (.cells #[.int .i64 dx, .int .i64 dy] 23)) (w.heap.size) #[.int .i64 ax, .int .i64 ay] 23 := by simpa using ((((Bx.new w #[.int .i64 ax, .int .i64 ay] 23).alloc _).alloc _).alloc _)
  have X1 : Bx ((((w.alloc (.cells #[.int .i64 ax, .int .i64 ay] 23)).alloc (.cells #[.int .i64 bx, .int .i64 b_] 23)).alloc (.cells #[.int .i64 cx, .int .i64 cy] 23)).alloc (.cells #[.int .i64 dx, .int .i64 dy] 23)) (w.heap.size + 1) #[.int .i64 bx, .int .i64 b_] 23 := by simpa using (((Bx.new (w.alloc (.cells #[.int .i64 ax, .int .i64 ay] 23)) #[.int .i64 bx, .int .i64 b_] 23).alloc _).alloc _)
  have X2 : Bx ((((w.alloc (.cells #[.int .i64 ax, .int .i64 ay] 23)).alloc (.cells #[.int .i64 bx, .int .i64 b_] 23)).alloc (.cells #[.int .i64 cx, .int .i64 cy] 23)).alloc (.cells #[.int .i64 dx, .int .i64 dy] 23)) (w.heap.size + 1 + 1) #[.int .i64 cx, .int .i64 cy] 23 := by simpa using ((Bx.new ((w.alloc (.cells #[.int .i64 ax, .int .i64 ay] 23)).alloc (.cells #[.int .i64 bx, .int .i64 b_] 23)) #[.int .i64 cx, .int .i64 cy] 23).alloc _)
  have X3 : Bx ((((w.alloc (.cells #[.int .i64 ax, .int .i64 ay] 23)).alloc (.cells #[.int .i64 bx, .int .i64 b_] 23)).alloc (.cells #[.int .i64 cx, .int .i64 cy] 23)).alloc (.cells #[.int .i64 dx, .int .i64 dy] 23)) (w.heap.size + 1 + 1 + 1) #[.int .i64 dx, .int .i64 dy] 23 := by simpa using (Bx.new (((w.alloc (.cells #[.int .i64 ax, .int .i64 ay] 23)).alloc (.cells #[.int .i64 bx, .int .i64 b_] 23)).alloc (.cells #[.int .i64 cx, .int .i64 cy] 23)) #[.int .i64 dx, .int .i64 dy] 23)
  have HB1 := Lib.hid B
  have FP_1 := Lib.hid X0
  have FQ_1 := Lib.hid X1
  have FT_1 := Lib.hid X2
  have FV_1 := Lib.hid X3
  clear B C X0 X1 X2 X3 HB0 
  generalize ((((w.alloc (.cells #[.int .i64 ax, .int .i64 ay] 23)).alloc (.cells #[.int .i64 bx, .int .i64 b_] 23)).alloc (.cells #[.int .i64 cx, .int .i64 cy] 23)).alloc (.cells #[.int .i64 dx, .int .i64 dy] 23)) = w1 at *
  go_upto_region 1 with (fail)
  have M0 := trivial
  have QF := Lib.hid (show ∀ w', Below w1.heap.size w1 w' → w'.cell? ⟨w.heap.size, 0, none⟩ = some (.int .i64 ax) ∧ w'.cell? ⟨w.heap.size, 1, none⟩ = some (.int .i64 ay) ∧ w'.cell? ⟨w.heap.size + 1, 0, none⟩ = some (.int .i64 bx) ∧ w'.cell? ⟨w.heap.size + 1, 1, none⟩ = some (.int .i64 b_) ∧ w'.cell? ⟨w.heap.size + 1 + 1, 0, none⟩ = some (.int .i64 cx) ∧ w'.cell? ⟨w.heap.size + 1 + 1, 1, none⟩ = some (.int .i64 cy) ∧ w'.cell? ⟨w.heap.size + 1 + 1 + 1, 0, none⟩ = some (.int .i64 dx) ∧ w'.cell? ⟨w.heap.size + 1 + 1 + 1, 1, none⟩ = some (.int .i64 dy) from fun w' hb => ⟨(FP_1.out.below hb (Nat.le_refl _)).cell 0 (v := .int .i64 ax) rfl, (FP_1.out.below hb (Nat.le_refl _)).cell 1 (v := .int .i64 ay) rfl, (FQ_1.out.below hb (Nat.le_refl _)).cell 0 (v := .int .i64 bx) rfl, (FQ_1.out.below hb (Nat.le_refl _)).cell 1 (v := .int .i64 b_) rfl, (FT_1.out.below hb (Nat.le_refl _)).cell 0 (v := .int .i64 cx) rfl, (FT_1.out.below hb (Nat.le_refl _)).cell 1 (v := .int .i64 cy) rfl, (FV_1.out.below hb (Nat.le_refl _)).cell 0 (v := .int .i64 dx) rfl, (FV_1.out.below hb (Nat.le_refl _)).cell 1 (v := .int .i64 dy) rfl⟩)
  go_cut [9] (fun s9 wx => Cut3V w1 (ax - dx) (ay - dy) (bx - dx) (b_ - dy) (cx - dx) (cy - dy) s9 wx)
  case first =>
    go_region_held3 (fun w' => w'.cell? ⟨w.heap.size, 0, none⟩ = some (.int .i64 ax) ∧ w'.cell? ⟨w.heap.size, 1, none⟩ = some (.int .i64 ay) ∧ w'.cell? ⟨w.heap.size + 1, 0, none⟩ = some (.int .i64 bx) ∧ w'.cell? ⟨w.heap.size + 1, 1, none⟩ = some (.int .i64 b_) ∧ w'.cell? ⟨w.heap.size + 1 + 1, 0, none⟩ = some (.int .i64 cx) ∧ w'.cell? ⟨w.heap.size + 1 + 1, 1, none⟩ = some (.int .i64 cy) ∧ w'.cell? ⟨w.heap.size + 1 + 1 + 1, 0, none⟩ = some (.int .i64 dx) ∧ w'.cell? ⟨w.heap.size + 1 + 1 + 1, 1, none⟩ = some (.int .i64 dy)) (first | (with_reducible refine QF.out _ ?_; (repeat (first | (with_reducible refine below_st ?_ ?_; (focus (first | with_reducible assumption | with_reducible exact Nat.le_refl _ | (simp; done) | omega | (simp <;> omega)))) | with_reducible refine below_tr ?_ C4.out | with_reducible refine below_tr ?_ C3.out | with_reducible refine below_tr ?_ C2.out | with_reducible refine below_al ?_ | with_reducible exact below_rf | with_reducible refine below_dr ?_)); done) | (with_reducible refine QF.out _ ?_; (repeat (first | (with_reducible refine below_st ?_ ?_; (focus (first | with_reducible assumption | with_reducible exact Nat.le_refl _ | (simp; done) | omega | (simp <;> omega)))) | with_reducible refine below_tr ?_ C3.out | with_reducible refine below_tr ?_ C2.out | with_reducible refine below_al ?_ | with_reducible exact below_rf | with_reducible refine below_dr ?_)); done) | (with_reducible refine QF.out _ ?_; (repeat (first | (with_reducible refine below_st ?_ ?_; (focus (first | with_reducible assumption | with_reducible exact Nat.le_refl _ | (simp; done) | omega | (simp <;> omega)))) | with_reducible refine below_tr ?_ C2.out | with_reducible refine below_al ?_ | with_reducible exact below_rf | with_reducible refine below_dr ?_)); done) | (with_reducible refine QF.out _ ?_; (repeat (first | (with_reducible refine below_st ?_ ?_; (focus (first | with_reducible assumption | with_reducible exact Nat.le_refl _ | (simp; done) | omega | (simp <;> omega)))) | with_reducible refine below_al ?_ | with_reducible exact below_rf | with_reducible refine below_dr ?_)); done)) (first
          | (go_at_call 76; clear M2; have M3 := trivial; refine (diff_Between dx dy cx cy hp.g hp.h hp.e hp.f _).mono ?_; rintro e w4 ⟨⟨U3, u3, V3, v3, rfl, S3, T3⟩, B⟩; have C4 := Lib.hid B; clear B; have hs4 : w1.heap.size ≤ w4.heap.size := Below.size (B := w1.heap.size) (by (repeat (first | (with_reducible refine below_st ?_ ?_; (focus (first | with_reducible assumption | with_reducible exact Nat.le_refl _ | (simp; done) | omega | (simp <;> omega)))) | with_reducible refine below_tr ?_ C4.out | with_reducible refine below_tr ?_ C3.out | with_reducible refine below_tr ?_ C2.out | with_reducible refine below_al ?_ | with_reducible exact below_rf | with_reducible refine below_dr ?_))); have GX1_ := Lib.hid (fwd_sl (w' := w4) GX1.out (by (repeat (first | with_reducible exact below_rf | with_reducible refine below_tr ?_ C4.out | with_reducible refine below_al ?_ | with_reducible refine below_dr ?_)))); clear GX1; have GX1 := Lib.hid GX1_.out; clear GX1_; have GY1_ := Lib.hid (fwd_sl (w' := w4) GY1.out (by (repeat (first | with_reducible exact below_rf | with_reducible refine below_tr ?_ C4.out | with_reducible refine below_al ?_ | with_reducible refine below_dr ?_)))); clear GY1; have GY1 := Lib.hid GY1_.out; clear GY1_; have GX2_ := Lib.hid (fwd_sl (w' := w4) GX2.out (by (repeat (first | with_reducible exact below_rf | with_reducible refine below_tr ?_ C4.out | with_reducible refine below_al ?_ | with_reducible refine below_dr ?_)))); clear GX2; have GX2 := Lib.hid GX2_.out; clear GX2_; have GY2_ := Lib.hid (fwd_sl (w' := w4) GY2.out (by (repeat (first | with_reducible exact below_rf | with_reducible refine below_tr ?_ C4.out | with_reducible refine below_al ?_ | with_reducible refine below_dr ?_)))); clear GY2; have GY2 := Lib.hid GY2_.out; clear GY2_; have GX3 := Lib.hid S3; clear S3; have GY3 := Lib.hid T3; clear T3; (try (refine have_then (T := Bx w4 (w1.heap.size) #[.slice none 0 0, .slice none 0 0, .slice none 0 0, .slice none 0 0, .slice none 0 0, .slice none 0 0] 238) ?_ (fun y4_0_0 => ?_); (focus ((repeat (first | (with_reducible refine bx_new ?_; (focus (first | with_reducible rfl | (simp; done)))) | with_reducible refine bx_tr ?_ C4.out | with_reducible refine bx_tr ?_ C3.out | with_reducible refine bx_tr ?_ C2.out | with_reducible refine bx_set2 (z0 := .slice none 0 0) (z1 := .slice none 0 0) ?_ | with_reducible refine bx_set2 (z0 := .int .i64 0) (z1 := .slice none 0 0) ?_ | with_reducible refine bx_set4 (z0 := .int .i64 0) (z1 := .slice none 0 0) (z2 := .int .i64 0) (z3 := .slice none 0 0) ?_ | (with_reducible refine bx_ot ?_ ?_; (focus (first | with_reducible assumption | with_reducible exact Nat.le_refl _ | (simp; done) | omega | (simp <;> omega)))) | with_reducible refine bx_al ?_ | with_reducible refine bx_dr ?_)); done)); have y4_0_0c0 := y4_0_0.cell 0 (v := .slice none 0 0) rfl; have y4_0_0f0 := y4_0_0.free 0; have y4_0_0c1 := y4_0_0.cell 1 (v := .slice none 0 0) rfl; have y4_0_0f1 := y4_0_0.free 1; have y4_0_0c2 := y4_0_0.cell 2 (v := .slice none 0 0) rfl; have y4_0_0f2 := y4_0_0.free 2; have y4_0_0c3 := y4_0_0.cell 3 (v := .slice none 0 0) rfl; have y4_0_0f3 := y4_0_0.free 3; have y4_0_0c4 := y4_0_0.cell 4 (v := .slice none 0 0) rfl; have y4_0_0f4 := y4_0_0.free 4; have y4_0_0c5 := y4_0_0.cell 5 (v := .slice none 0 0) rfl; have y4_0_0f5 := y4_0_0.free 5; have y4_0_0l := y4_0_0.lt; have y4_0_0n := Nat.ne_of_lt y4_0_0l; have y4_0_0m := Nat.ne_of_gt y4_0_0l; have y4_0_0h := Lib.hid y4_0_0; clear y4_0_0)); (try (refine have_then (T := Bx w4 (w2.heap.size) #[.slice none 0 0, .slice none 0 0, .slice none 0 0, .slice none 0 0, .slice none 0 0, .slice none 0 0] 238) ?_ (fun y4_1_0 => ?_); (focus ((repeat (first | (with_reducible refine bx_new ?_; (focus (first | with_reducible rfl | (simp; done)))) | with_reducible refine bx_tr ?_ C4.out | with_reducible refine bx_tr ?_ C3.out | with_reducible refine bx_tr ?_ C2.out | with_reducible refine bx_set2 (z0 := .slice none 0 0) (z1 := .slice none 0 0) ?_ | with_reducible refine bx_set2 (z0 := .int .i64 0) (z1 := .slice none 0 0) ?_ | with_reducible refine bx_set4 (z0 := .int .i64 0) (z1 := .slice none 0 0) (z2 := .int .i64 0) (z3 := .slice none 0 0) ?_ | (with_reducible refine bx_ot ?_ ?_; (focus (first | with_reducible assumption | with_reducible exact Nat.le_refl _ | (simp; done) | omega | (simp <;> omega)))) | with_reducible refine bx_al ?_ | with_reducible refine bx_dr ?_)); done)); have y4_1_0c0 := y4_1_0.cell 0 (v := .slice none 0 0) rfl; have y4_1_0f0 := y4_1_0.free 0; have y4_1_0c1 := y4_1_0.cell 1 (v := .slice none 0 0) rfl; have y4_1_0f1 := y4_1_0.free 1; have y4_1_0c2 := y4_1_0.cell 2 (v := .slice none 0 0) rfl; have y4_1_0f2 := y4_1_0.free 2; have y4_1_0c3 := y4_1_0.cell 3 (v := .slice none 0 0) rfl; have y4_1_0f3 := y4_1_0.free 3; have y4_1_0c4 := y4_1_0.cell 4 (v := .slice none 0 0) rfl; have y4_1_0f4 := y4_1_0.free 4; have y4_1_0c5 := y4_1_0.cell 5 (v := .slice none 0 0) rfl; have y4_1_0f5 := y4_1_0.free 5; have y4_1_0l := y4_1_0.lt; have y4_1_0n := Nat.ne_of_lt y4_1_0l; have y4_1_0m := Nat.ne_of_gt y4_1_0l; have y4_1_0h := Lib.hid y4_1_0; clear y4_1_0)); (try (refine have_then (T := Bx w4 (w3.heap.size) #[.slice none 0 0, .slice none 0 0, .slice none 0 0, .slice none 0 0, .slice none 0 0, .slice none 0 0] 238) ?_ (fun y4_2_0 => ?_); (focus ((repeat (first | (with_reducible refine bx_new ?_; (focus (first | with_reducible rfl | (simp; done)))) | with_reducible refine bx_tr ?_ C4.out | with_reducible refine bx_tr ?_ C3.out | with_reducible refine bx_tr ?_ C2.out | with_reducible refine bx_set2 (z0 := .slice none 0 0) (z1 := .slice none 0 0) ?_ | with_reducible refine bx_set2 (z0 := .int .i64 0) (z1 := .slice none 0 0) ?_ | with_reducible refine bx_set4 (z0 := .int .i64 0) (z1 := .slice none 0 0) (z2 := .int .i64 0) (z3 := .slice none 0 0) ?_ | (with_reducible refine bx_ot ?_ ?_; (focus (first | with_reducible assumption | with_reducible exact Nat.le_refl _ | (simp; done) | omega | (simp <;> omega)))) | with_reducible refine bx_al ?_ | with_reducible refine bx_dr ?_)); done)); have y4_2_0c0 := y4_2_0.cell 0 (v := .slice none 0 0) rfl; have y4_2_0f0 := y4_2_0.free 0; have y4_2_0c1 := y4_2_0.cell 1 (v := .slice none 0 0) rfl; have y4_2_0f1 := y4_2_0.free 1; have y4_2_0c2 := y4_2_0.cell 2 (v := .slice none 0 0) rfl; have y4_2_0f2 := y4_2_0.free 2; have y4_2_0c3 := y4_2_0.cell 3 (v := .slice none 0 0) rfl; have y4_2_0f3 := y4_2_0.free 3; have y4_2_0c4 := y4_2_0.cell 4 (v := .slice none 0 0) rfl; have y4_2_0f4 := y4_2_0.free 4; have y4_2_0c5 := y4_2_0.cell 5 (v := .slice none 0 0) rfl; have y4_2_0f5 := y4_2_0.free 5; have y4_2_0l := y4_2_0.lt; have y4_2_0n := Nat.ne_of_lt y4_2_0l; have y4_2_0m := Nat.ne_of_gt y4_2_0l; have y4_2_0h := Lib.hid y4_2_0; clear y4_2_0)))
          | (go_at_call 76; clear M1; have M2 := trivial; refine (diff_Between dx dy bx b_ hp.g hp.h hp.c hp.d _).mono ?_; rintro e w3 ⟨⟨U2, u2, V2, v2, rfl, S2, T2⟩, B⟩; have C3 := Lib.hid B; clear B; have hs3 : w1.heap.size ≤ w3.heap.size := Below.size (B := w1.heap.size) (by (repeat (first | (with_reducible refine below_st ?_ ?_; (focus (first | with_reducible assumption | with_reducible exact Nat.le_refl _ | (simp; done) | omega | (simp <;> omega)))) | with_reducible refine below_tr ?_ C3.out | with_reducible refine below_tr ?_ C2.out | with_reducible refine below_al ?_ | with_reducible exact below_rf | with_reducible refine below_dr ?_))); have GX1_ := Lib.hid (fwd_sl (w' := w3) GX1.out (by (repeat (first | with_reducible exact below_rf | with_reducible refine below_tr ?_ C3.out | with_reducible refine below_al ?_ | with_reducible refine below_dr ?_)))); clear GX1; have GX1 := Lib.hid GX1_.out; clear GX1_; have GY1_ := Lib.hid (fwd_sl (w' := w3) GY1.out (by (repeat (first | with_reducible exact below_rf | with_reducible refine below_tr ?_ C3.out | with_reducible refine below_al ?_ | with_reducible refine below_dr ?_)))); clear GY1; have GY1 := Lib.hid GY1_.out; clear GY1_; have GX2 := Lib.hid S2; clear S2; have GY2 := Lib.hid T2; clear T2; (try (refine have_then (T := Bx w3 (w1.heap.size) #[.slice none 0 0, .slice none 0 0, .slice none 0 0, .slice none 0 0, .slice none 0 0, .slice none 0 0] 238) ?_ (fun y3_0_0 => ?_); (focus ((repeat (first | (with_reducible refine bx_new ?_; (focus (first | with_reducible rfl | (simp; done)))) | with_reducible refine bx_tr ?_ C3.out | with_reducible refine bx_tr ?_ C2.out | with_reducible refine bx_set2 (z0 := .slice none 0 0) (z1 := .slice none 0 0) ?_ | with_reducible refine bx_set2 (z0 := .int .i64 0) (z1 := .slice none 0 0) ?_ | with_reducible refine bx_set4 (z0 := .int .i64 0) (z1 := .slice none 0 0) (z2 := .int .i64 0) (z3 := .slice none 0 0) ?_ | (with_reducible refine bx_ot ?_ ?_; (focus (first | with_reducible assumption | with_reducible exact Nat.le_refl _ | (simp; done) | omega | (simp <;> omega)))) | with_reducible refine bx_al ?_ | with_reducible refine bx_dr ?_)); done)); have y3_0_0c0 := y3_0_0.cell 0 (v := .slice none 0 0) rfl; have y3_0_0f0 := y3_0_0.free 0; have y3_0_0c1 := y3_0_0.cell 1 (v := .slice none 0 0) rfl; have y3_0_0f1 := y3_0_0.free 1; have y3_0_0c2 := y3_0_0.cell 2 (v := .slice none 0 0) rfl; have y3_0_0f2 := y3_0_0.free 2; have y3_0_0c3 := y3_0_0.cell 3 (v := .slice none 0 0) rfl; have y3_0_0f3 := y3_0_0.free 3; have y3_0_0c4 := y3_0_0.cell 4 (v := .slice none 0 0) rfl; have y3_0_0f4 := y3_0_0.free 4; have y3_0_0c5 := y3_0_0.cell 5 (v := .slice none 0 0) rfl; have y3_0_0f5 := y3_0_0.free 5; have y3_0_0l := y3_0_0.lt; have y3_0_0n := Nat.ne_of_lt y3_0_0l; have y3_0_0m := Nat.ne_of_gt y3_0_0l; have y3_0_0h := Lib.hid y3_0_0; clear y3_0_0)); (try (refine have_then (T := Bx w3 (w2.heap.size) #[.slice none 0 0, .slice none 0 0, .slice none 0 0, .slice none 0 0, .slice none 0 0, .slice none 0 0] 238) ?_ (fun y3_1_0 => ?_); (focus ((repeat (first | (with_reducible refine bx_new ?_; (focus (first | with_reducible rfl | (simp; done)))) | with_reducible refine bx_tr ?_ C3.out | with_reducible refine bx_tr ?_ C2.out | with_reducible refine bx_set2 (z0 := .slice none 0 0) (z1 := .slice none 0 0) ?_ | with_reducible refine bx_set2 (z0 := .int .i64 0) (z1 := .slice none 0 0) ?_ | with_reducible refine bx_set4 (z0 := .int .i64 0) (z1 := .slice none 0 0) (z2 := .int .i64 0) (z3 := .slice none 0 0) ?_ | (with_reducible refine bx_ot ?_ ?_; (focus (first | with_reducible assumption | with_reducible exact Nat.le_refl _ | (simp; done) | omega | (simp <;> omega)))) | with_reducible refine bx_al ?_ | with_reducible refine bx_dr ?_)); done)); have y3_1_0c0 := y3_1_0.cell 0 (v := .slice none 0 0) rfl; have y3_1_0f0 := y3_1_0.free 0; have y3_1_0c1 := y3_1_0.cell 1 (v := .slice none 0 0) rfl; have y3_1_0f1 := y3_1_0.free 1; have y3_1_0c2 := y3_1_0.cell 2 (v := .slice none 0 0) rfl; have y3_1_0f2 := y3_1_0.free 2; have y3_1_0c3 := y3_1_0.cell 3 (v := .slice none 0 0) rfl; have y3_1_0f3 := y3_1_0.free 3; have y3_1_0c4 := y3_1_0.cell 4 (v := .slice none 0 0) rfl; have y3_1_0f4 := y3_1_0.free 4; have y3_1_0c5 := y3_1_0.cell 5 (v := .slice none 0 0) rfl; have y3_1_0f5 := y3_1_0.free 5; have y3_1_0l := y3_1_0.lt; have y3_1_0n := Nat.ne_of_lt y3_1_0l; have y3_1_0m := Nat.ne_of_gt y3_1_0l; have y3_1_0h := Lib.hid y3_1_0; clear y3_1_0)))
          | (go_at_call 76; clear M0; have M1 := trivial; refine (diff_Between dx dy ax ay hp.g hp.h hp.a hp.b _).mono ?_; rintro e w2 ⟨⟨U1, u1, V1, v1, rfl, S1, T1⟩, B⟩; have C2 := Lib.hid B; clear B; have hs2 : w1.heap.size ≤ w2.heap.size := Below.size (B := w1.heap.size) (by (repeat (first | (with_reducible refine below_st ?_ ?_; (focus (first | with_reducible assumption | with_reducible exact Nat.le_refl _ | (simp; done) | omega | (simp <;> omega)))) | with_reducible refine below_tr ?_ C2.out | with_reducible refine below_al ?_ | with_reducible exact below_rf | with_reducible refine below_dr ?_))); have GX1 := Lib.hid S1; clear S1; have GY1 := Lib.hid T1; clear T1; (try (refine have_then (T := Bx w2 (w1.heap.size) #[.slice none 0 0, .slice none 0 0, .slice none 0 0, .slice none 0 0, .slice none 0 0, .slice none 0 0] 238) ?_ (fun y2_0_0 => ?_); (focus ((repeat (first | (with_reducible refine bx_new ?_; (focus (first | with_reducible rfl | (simp; done)))) | with_reducible refine bx_tr ?_ C2.out | with_reducible refine bx_set2 (z0 := .slice none 0 0) (z1 := .slice none 0 0) ?_ | with_reducible refine bx_set2 (z0 := .int .i64 0) (z1 := .slice none 0 0) ?_ | with_reducible refine bx_set4 (z0 := .int .i64 0) (z1 := .slice none 0 0) (z2 := .int .i64 0) (z3 := .slice none 0 0) ?_ | (with_reducible refine bx_ot ?_ ?_; (focus (first | with_reducible assumption | with_reducible exact Nat.le_refl _ | (simp; done) | omega | (simp <;> omega)))) | with_reducible refine bx_al ?_ | with_reducible refine bx_dr ?_)); done)); have y2_0_0c0 := y2_0_0.cell 0 (v := .slice none 0 0) rfl; have y2_0_0f0 := y2_0_0.free 0; have y2_0_0c1 := y2_0_0.cell 1 (v := .slice none 0 0) rfl; have y2_0_0f1 := y2_0_0.free 1; have y2_0_0c2 := y2_0_0.cell 2 (v := .slice none 0 0) rfl; have y2_0_0f2 := y2_0_0.free 2; have y2_0_0c3 := y2_0_0.cell 3 (v := .slice none 0 0) rfl; have y2_0_0f3 := y2_0_0.free 3; have y2_0_0c4 := y2_0_0.cell 4 (v := .slice none 0 0) rfl; have y2_0_0f4 := y2_0_0.free 4; have y2_0_0c5 := y2_0_0.cell 5 (v := .slice none 0 0) rfl; have y2_0_0f5 := y2_0_0.free 5; have y2_0_0l := y2_0_0.lt; have y2_0_0n := Nat.ne_of_lt y2_0_0l; have y2_0_0m := Nat.ne_of_gt y2_0_0l; have y2_0_0h := Lib.hid y2_0_0; clear y2_0_0))))
    all_goals (go_wp2_with fail; go_meet; exact ⟨_, U1, u1, V1, v1, U2, u2, V2, v2, U3, u3, V3, v3, rfl, by (repeat (first | with_reducible exact y4_0_0h.out | with_reducible exact y4_1_0h.out | with_reducible exact y4_2_0h.out | (with_reducible refine bx_set6 (z := .slice none 0 0) ?_) | (with_reducible refine bx_new ?_; (focus (first | with_reducible rfl | (simp; done)))) | with_reducible refine bx_al ?_ | with_reducible refine bx_dr ?_)), by (repeat (first | with_reducible exact GX1.out | (with_reducible refine sl_set6 (t := 238) ?_ ?_; (focus ((repeat (first | with_reducible exact y4_0_0h.out | with_reducible exact y4_1_0h.out | with_reducible exact y4_2_0h.out | (with_reducible refine bx_set6 (z := .slice none 0 0) ?_) | (with_reducible refine bx_new ?_; (focus (first | with_reducible rfl | (simp; done)))) | with_reducible refine bx_al ?_ | with_reducible refine bx_dr ?_)); done))) | with_reducible refine sl_al ?_ | with_reducible refine sl_dr ?_)), by (repeat (first | with_reducible exact GY1.out | (with_reducible refine sl_set6 (t := 238) ?_ ?_; (focus ((repeat (first | with_reducible exact y4_0_0h.out | with_reducible exact y4_1_0h.out | with_reducible exact y4_2_0h.out | (with_reducible refine bx_set6 (z := .slice none 0 0) ?_) | (with_reducible refine bx_new ?_; (focus (first | with_reducible rfl | (simp; done)))) | with_reducible refine bx_al ?_ | with_reducible refine bx_dr ?_)); done))) | with_reducible refine sl_al ?_ | with_reducible refine sl_dr ?_)), by (repeat (first | with_reducible exact GX2.out | (with_reducible refine sl_set6 (t := 238) ?_ ?_; (focus ((repeat (first | with_reducible exact y4_0_0h.out | with_reducible exact y4_1_0h.out | with_reducible exact y4_2_0h.out | (with_reducible refine bx_set6 (z := .slice none 0 0) ?_) | (with_reducible refine bx_new ?_; (focus (first | with_reducible rfl | (simp; done)))) | with_reducible refine bx_al ?_ | with_reducible refine bx_dr ?_)); done))) | with_reducible refine sl_al ?_ | with_reducible refine sl_dr ?_)), by (repeat (first | with_reducible exact GY2.out | (with_reducible refine sl_set6 (t := 238) ?_ ?_; (focus ((repeat (first | with_reducible exact y4_0_0h.out | with_reducible exact y4_1_0h.out | with_reducible exact y4_2_0h.out | (with_reducible refine bx_set6 (z := .slice none 0 0) ?_) | (with_reducible refine bx_new ?_; (focus (first | with_reducible rfl | (simp; done)))) | with_reducible refine bx_al ?_ | with_reducible refine bx_dr ?_)); done))) | with_reducible refine sl_al ?_ | with_reducible refine sl_dr ?_)), by (repeat (first | with_reducible exact GX3.out | (with_reducible refine sl_set6 (t := 238) ?_ ?_; (focus ((repeat (first | with_reducible exact y4_0_0h.out | with_reducible exact y4_1_0h.out | with_reducible exact y4_2_0h.out | (with_reducible refine bx_set6 (z := .slice none 0 0) ?_) | (with_reducible refine bx_new ?_; (focus (first | with_reducible rfl | (simp; done)))) | with_reducible refine bx_al ?_ | with_reducible refine bx_dr ?_)); done))) | with_reducible refine sl_al ?_ | with_reducible refine sl_dr ?_)), by (repeat (first | with_reducible exact GY3.out | (with_reducible refine sl_set6 (t := 238) ?_ ?_; (focus ((repeat (first | with_reducible exact y4_0_0h.out | with_reducible exact y4_1_0h.out | with_reducible exact y4_2_0h.out | (with_reducible refine bx_set6 (z := .slice none 0 0) ?_) | (with_reducible refine bx_new ?_; (focus (first | with_reducible rfl | (simp; done)))) | with_reducible refine bx_al ?_ | with_reducible refine bx_dr ?_)); done))) | with_reducible refine sl_al ?_ | with_reducible refine sl_dr ?_)), by (repeat (first | (with_reducible refine below_st ?_ ?_; (focus (first | with_reducible assumption | with_reducible exact Nat.le_refl _ | (simp; done) | omega | (simp <;> omega)))) | with_reducible refine below_tr ?_ C4.out | with_reducible refine below_tr ?_ C3.out | with_reducible refine below_tr ?_ C2.out | with_reducible refine below_al ?_ | with_reducible exact below_rf | with_reducible refine below_dr ?_))⟩)
  case rest =>
    clear QF M0
    obtain ⟨b9, U1, u1, V1, v1, U2, u2, V2, v2, U3, u3, V3, v3, rfl, H, S1, T1, S2, T2, S3, T3, HCB⟩ := hcut
    have FP_5 := Lib.hid (FP_1.out.below HCB (Nat.le_refl _)); clear FP_1
    have FQ_5 := Lib.hid (FQ_1.out.below HCB (Nat.le_refl _)); clear FQ_1
    have FT_5 := Lib.hid (FT_1.out.below HCB (Nat.le_refl _)); clear FT_1
    have FV_5 := Lib.hid (FV_1.out.below HCB (Nat.le_refl _)); clear FV_1
    have HB5 := Lib.hid (HB1.out.trans (HCB.mono HB1.out.size)); clear HCB HB1
    have FW := Lib.hid H; have FX1 := Lib.hid S1; have FY1 := Lib.hid T1; have FX2 := Lib.hid S2; have FY2 := Lib.hid T2; have FX3 := Lib.hid S3; have FY3 := Lib.hid T3; clear H S1 T1 S2 T2 S3 T3
    go_wp2_with fail
    refine (limb_From 0 5 5 rfl (by unfold IsI; omega) rfl _).mono ?_
    rintro e w6 ⟨Z0, z0, rfl, SZ, B⟩
    have HB6 := Lib.hid (HB5.out.trans (B.mono HB5.out.size))
    have FW_6 := Lib.hid (FW.out.below B (Nat.le_refl _))
    have FX1_6 := Lib.hid (FX1.out.below B (Nat.le_refl _))
    have FY1_6 := Lib.hid (FY1.out.below B (Nat.le_refl _))
    have FX2_6 := Lib.hid (FX2.out.below B (Nat.le_refl _))
    have FY2_6 := Lib.hid (FY2.out.below B (Nat.le_refl _))
    have FX3_6 := Lib.hid (FX3.out.below B (Nat.le_refl _))
    have FY3_6 := Lib.hid (FY3.out.below B (Nat.le_refl _))
    have FZ_6 := Lib.hid SZ
    clear B SZ HB5 FW FX1 FY1 FX2 FY2 FX3 FY3
    have s1 : IntKind.i64.wrap 1 = 1 := rfl; have s2 : IntKind.i64.wrap 2 = 2 := rfl; have s3 : IntKind.i64.wrap 3 = 3 := rfl; have s4 : IntKind.i64.wrap 4 = 4 := rfl
    have m1 : (1 : Int).tmod 3 = 1 := rfl; have m2 : (2 : Int).tmod 3 = 2 := rfl; have m3 : (3 : Int).tmod 3 = 0 := rfl; have m4 : (4 : Int).tmod 3 = 1 := rfl
    go_wp2_with fail
    refine wp_loop_rounds 4 ?_
    rw [rounds_succ]
    go_wp2_with fail
    have RB6 := Lib.hid (below_drew0 w6)
    have QS6 := Lib.hid (show w6.cell? ⟨b9, 0, none⟩ = some (.slice U1 2 u1) ∧ w6.cell? ⟨b9, 1, none⟩ = some (.slice V1 2 v1) ∧ w6.cell? ⟨b9, 2, none⟩ = some (.slice U2 2 u2) ∧ w6.cell? ⟨b9, 3, none⟩ = some (.slice V2 2 v2) ∧ w6.cell? ⟨b9, 4, none⟩ = some (.slice U3 2 u3) ∧ w6.cell? ⟨b9, 5, none⟩ = some (.slice V3 2 v3) from ⟨FW_6.out.cell 0 (v := .slice U1 2 u1) rfl, FW_6.out.cell 1 (v := .slice V1 2 v1) rfl, FW_6.out.cell 2 (v := .slice U2 2 u2) rfl, FW_6.out.cell 3 (v := .slice V2 2 v2) rfl, FW_6.out.cell 4 (v := .slice U3 2 u3) rfl, FW_6.out.cell 5 (v := .slice V3 2 v3) rfl⟩)
    have QF6 := Lib.hid (show ∀ w', Below w6.heap.size w6 w' → w'.cell? ⟨b9, 0, none⟩ = some (.slice U1 2 u1) ∧ w'.cell? ⟨b9, 1, none⟩ = some (.slice V1 2 v1) ∧ w'.cell? ⟨b9, 2, none⟩ = some (.slice U2 2 u2) ∧ w'.cell? ⟨b9, 3, none⟩ = some (.slice V2 2 v2) ∧ w'.cell? ⟨b9, 4, none⟩ = some (.slice U3 2 u3) ∧ w'.cell? ⟨b9, 5, none⟩ = some (.slice V3 2 v3) from fun w' hb => ⟨(FW_6.out.below hb (Nat.le_refl _)).cell 0 (v := .slice U1 2 u1) rfl, (FW_6.out.below hb (Nat.le_refl _)).cell 1 (v := .slice V1 2 v1) rfl, (FW_6.out.below hb (Nat.le_refl _)).cell 2 (v := .slice U2 2 u2) rfl, (FW_6.out.below hb (Nat.le_refl _)).cell 3 (v := .slice V2 2 v2) rfl, (FW_6.out.below hb (Nat.le_refl _)).cell 4 (v := .slice U3 2 u3) rfl, (FW_6.out.below hb (Nat.le_refl _)).cell 5 (v := .slice V3 2 v3) rfl⟩)
    go_region_held3 (fun w' => w'.cell? ⟨b9, 0, none⟩ = some (.slice U1 2 u1) ∧ w'.cell? ⟨b9, 1, none⟩ = some (.slice V1 2 v1) ∧ w'.cell? ⟨b9, 2, none⟩ = some (.slice U2 2 u2) ∧ w'.cell? ⟨b9, 3, none⟩ = some (.slice V2 2 v2) ∧ w'.cell? ⟨b9, 4, none⟩ = some (.slice U3 2 u3) ∧ w'.cell? ⟨b9, 5, none⟩ = some (.slice V3 2 v3)) (first | with_reducible exact QF6.out _ RB8.out | with_reducible exact QF6.out _ RB7.out | with_reducible exact QS6.out | with_reducible exact QF6.out _ RB6.out) (first
          | (go_at_call 74; have := RB7; clear this; refine (limb_Extend C1 4 d1 (mnr bx b_ cx cy dx dy) 3 3 rfl _ RC_7.out (fit_mono (mnr_fit hp.c hp.d hp.e hp.f hp.g hp.h) (by omega)) rfl rfl).mono ?_; rintro e w8 ⟨C2, d2, rfl, SC, B⟩; have RB8 := Lib.hid (RB7.out.trans (B.mono RB7.out.size)); have RC_8 := Lib.hid (RC_7.out.below B (Nat.le_refl _)); have RM_8 := Lib.hid SC; clear B SC)
          | (go_at_call 75; have := RB6; clear this; refine (diff_Cross U2 V2 U3 V3 u2 v2 u3 v3 _ _ _ _ _ (FX2_6.out.below RB6.out (Nat.le_refl _)) (FY2_6.out.below RB6.out (Nat.le_refl _)) (FX3_6.out.below RB6.out (Nat.le_refl _)) (FY3_6.out.below RB6.out (Nat.le_refl _)) (fit_sub hp.c hp.g) (fit_sub hp.d hp.h) (fit_sub hp.e hp.g) (fit_sub hp.f hp.h)).mono ?_; rintro e w7 ⟨⟨C1, d1, rfl, SC⟩, B⟩; have RB7 := Lib.hid (RB6.out.trans (B.mono RB6.out.size)); have RC_7 := Lib.hid (show Sl _ .u64 C1 4 d1 (lmb (mnr bx b_ cx cy dx dy)) from SC); clear B SC))
    have FW_8 := Lib.hid (FW_6.out.below RB8.out (Nat.le_refl _))
    have FX1_8 := Lib.hid (FX1_6.out.below RB8.out (Nat.le_refl _))
    have FY1_8 := Lib.hid (FY1_6.out.below RB8.out (Nat.le_refl _))
    have FX2_8 := Lib.hid (FX2_6.out.below RB8.out (Nat.le_refl _))
    have FY2_8 := Lib.hid (FY2_6.out.below RB8.out (Nat.le_refl _))
    have FX3_8 := Lib.hid (FX3_6.out.below RB8.out (Nat.le_refl _))
    have FY3_8 := Lib.hid (FY3_6.out.below RB8.out (Nat.le_refl _))
    have FZ_8 := Lib.hid (FZ_6.out.below RB8.out (Nat.le_refl _))
    have HB8 := Lib.hid (HB6.out.trans (RB8.out.mono HB6.out.size))
    clear HB6 FW_6 FX1_6 FY1_6 FX2_6 FY2_6 FX3_6 FY3_6 FZ_6
    have vW0 := FW_8.out.cell 0 (v := .slice U1 2 u1) rfl
    have vW1 := FW_8.out.cell 1 (v := .slice V1 2 v1) rfl
    have vW2 := FW_8.out.cell 2 (v := .slice U2 2 u2) rfl
    have vW3 := FW_8.out.cell 3 (v := .slice V2 2 v2) rfl
    have vW4 := FW_8.out.cell 4 (v := .slice U3 2 u3) rfl
    have vW5 := FW_8.out.cell 5 (v := .slice V3 2 v3) rfl
    go_wp2_with fail
    refine (diff_Norm U1 V1 u1 v1 _ _ _ FX1_8.out FY1_8.out (fit_sub hp.a hp.g) (fit_sub hp.b hp.h)).mono ?_
    rintro e w9 ⟨⟨L1, l1, rfl, SL0⟩, B⟩
    clear vW0 vW1 vW2 vW3 vW4 vW5
    have SL := (show Sl _ .u64 L1 4 l1 (lmb (nrm ax ay dx dy)) from SL0); clear SL0
    have HB9 := Lib.hid (HB8.out.trans (B.mono HB8.out.size))
    have FW_9 := Lib.hid (FW_8.out.below B (Nat.le_refl _))
    have FX1_9 := Lib.hid (FX1_8.out.below B (Nat.le_refl _))
    have FY1_9 := Lib.hid (FY1_8.out.below B (Nat.le_refl _))
    have FX2_9 := Lib.hid (FX2_8.out.below B (Nat.le_refl _))
    have FY2_9 := Lib.hid (FY2_8.out.below B (Nat.le_refl _))
    have FX3_9 := Lib.hid (FX3_8.out.below B (Nat.le_refl _))
    have FY3_9 := Lib.hid (FY3_8.out.below B (Nat.le_refl _))
    have FZ_9 := Lib.hid (FZ_8.out.below B (Nat.le_refl _))
    have FM_9 := Lib.hid (RM_8.out.below B (Nat.le_refl _))
    have FL_9 := Lib.hid SL
    clear B SL HB8 FW_8 FX1_8 FY1_8 FX2_8 FY2_8 FX3_8 FY3_8 FZ_8 RM_8
    go_wp2_with fail
    refine (limb_Extend L1 4 l1 (nrm ax ay dx dy) 3 3 rfl _ FL_9.out (fit_mono (nrm_fit hp.a hp.b hp.g hp.h) (by omega)) rfl rfl).mono ?_
    rintro e w10 ⟨L2, l2, rfl, SL, B⟩
    have HB10 := Lib.hid (HB9.out.trans (B.mono HB9.out.size))
    have FW_10 := Lib.hid (FW_9.out.below B (Nat.le_refl _))
    have FX1_10 := Lib.hid (FX1_9.out.below B (Nat.le_refl _))
    have FY1_10 := Lib.hid (FY1_9.out.below B (Nat.le_refl _))
    have FX2_10 := Lib.hid (FX2_9.out.below B (Nat.le_refl _))
    have FY2_10 := Lib.hid (FY2_9.out.below B (Nat.le_refl _))
    have FX3_10 := Lib.hid (FX3_9.out.below B (Nat.le_refl _))
    have FY3_10 := Lib.hid (FY3_9.out.below B (Nat.le_refl _))
    have FZ_10 := Lib.hid (FZ_9.out.below B (Nat.le_refl _))
    have FM_10 := Lib.hid (FM_9.out.below B (Nat.le_refl _))
    have FL_10 := Lib.hid (FL_9.out.below B (Nat.le_refl _))
    have FL_10 := Lib.hid SL
    clear B SL HB9 FW_9 FX1_9 FY1_9 FX2_9 FY2_9 FX3_9 FY3_9 FZ_9 FM_9 FL_9
    go_wp2_with fail
    refine (limb_Mul L2 C2 3 l2 3 d2 (nrm ax ay dx dy) (mnr bx b_ cx cy dx dy) _ FL_10.out FM_10.out (nrm_fit hp.a hp.b hp.g hp.h) (mnr_fit hp.c hp.d hp.e hp.f hp.g hp.h) rfl rfl (by omega)).mono ?_
    rintro e w11 ⟨K1, q1, rfl, SK0, B⟩
    have SK := (show Sl _ .u64 K1 6 q1 (lmb (nrm ax ay dx dy * mnr bx b_ cx cy dx dy)) from SK0); clear SK0
    have HB11 := Lib.hid (HB10.out.trans (B.mono HB10.out.size))
    have FW_11 := Lib.hid (FW_10.out.below B (Nat.le_refl _))
    have FX1_11 := Lib.hid (FX1_10.out.below B (Nat.le_refl _))
    have FY1_11 := Lib.hid (FY1_10.out.below B (Nat.le_refl _))
    have FX2_11 := Lib.hid (FX2_10.out.below B (Nat.le_refl _))
    have FY2_11 := Lib.hid (FY2_10.out.below B (Nat.le_refl _))
    have FX3_11 := Lib.hid (FX3_10.out.below B (Nat.le_refl _))
    have FY3_11 := Lib.hid (FY3_10.out.below B (Nat.le_refl _))
    have FZ_11 := Lib.hid (FZ_10.out.below B (Nat.le_refl _))
    have FM_11 := Lib.hid (FM_10.out.below B (Nat.le_refl _))
    have FL_11 := Lib.hid (FL_10.out.below B (Nat.le_refl _))
    have FK_11 := Lib.hid SK
    clear B SK HB10 FW_10 FX1_10 FY1_10 FX2_10 FY2_10 FX3_10 FY3_10 FZ_10 FM_10 FL_10
    go_wp2_with fail
    refine (limb_Extend K1 6 q1 (nrm ax ay dx dy * mnr bx b_ cx cy dx dy) 5 5 rfl _ FK_11.out (mul_fit6 (nrm_fit hp.a hp.b hp.g hp.h) (mnr_fit hp.c hp.d hp.e hp.f hp.g hp.h)) rfl rfl).mono ?_
    rintro e w12 ⟨K2, q2, rfl, SK, B⟩
    have HB12 := Lib.hid (HB11.out.trans (B.mono HB11.out.size))
    have FW_12 := Lib.hid (FW_11.out.below B (Nat.le_refl _))
    have FX1_12 := Lib.hid (FX1_11.out.below B (Nat.le_refl _))
    have FY1_12 := Lib.hid (FY1_11.out.below B (Nat.le_refl _))
    have FX2_12 := Lib.hid (FX2_11.out.below B (Nat.le_refl _))
    have FY2_12 := Lib.hid (FY2_11.out.below B (Nat.le_refl _))
    have FX3_12 := Lib.hid (FX3_11.out.below B (Nat.le_refl _))
    have FY3_12 := Lib.hid (FY3_11.out.below B (Nat.le_refl _))
    have FZ_12 := Lib.hid (FZ_11.out.below B (Nat.le_refl _))
    have FK_12 := Lib.hid (FK_11.out.below B (Nat.le_refl _))
    have FK_12 := Lib.hid SK
    clear B SK HB11 FW_11 FX1_11 FY1_11 FX2_11 FY2_11 FX3_11 FY3_11 FZ_11 FK_11
    go_wp2_with fail
    refine (limb_Add Z0 K2 5 z0 q2 (0) (nrm ax ay dx dy * mnr bx b_ cx cy dx dy) _ FZ_12.out FK_12.out rfl).mono ?_
    rintro e w13 ⟨Z1, z1, rfl, SZ, B⟩
    have HB13 := Lib.hid (HB12.out.trans (B.mono HB12.out.size))
    have FW_13 := Lib.hid (FW_12.out.below B (Nat.le_refl _))
    have FX1_13 := Lib.hid (FX1_12.out.below B (Nat.le_refl _))
    have FY1_13 := Lib.hid (FY1_12.out.below B (Nat.le_refl _))
    have FX2_13 := Lib.hid (FX2_12.out.below B (Nat.le_refl _))
    have FY2_13 := Lib.hid (FY2_12.out.below B (Nat.le_refl _))
    have FX3_13 := Lib.hid (FX3_12.out.below B (Nat.le_refl _))
    have FY3_13 := Lib.hid (FY3_12.out.below B (Nat.le_refl _))
    have FZ_13 := Lib.hid (FZ_12.out.below B (Nat.le_refl _))
    have FK_13 := Lib.hid (FK_12.out.below B (Nat.le_refl _))
    have FZ_13 := Lib.hid SZ
    clear B SZ HB12 FW_12 FX1_12 FY1_12 FX2_12 FY2_12 FX3_12 FY3_12 FZ_12 FK_12
    go_wp2_with fail
    rw [rounds_succ]
    go_wp2_with fail
    have RB13 := Lib.hid (below_drew0 w13)
    have QS13 := Lib.hid (show w13.cell? ⟨b9, 0, none⟩ = some (.slice U1 2 u1) ∧ w13.cell? ⟨b9, 1, none⟩ = some (.slice V1 2 v1) ∧ w13.cell? ⟨b9, 2, none⟩ = some (.slice U2 2 u2) ∧ w13.cell? ⟨b9, 3, none⟩ = some (.slice V2 2 v2) ∧ w13.cell? ⟨b9, 4, none⟩ = some (.slice U3 2 u3) ∧ w13.cell? ⟨b9, 5, none⟩ = some (.slice V3 2 v3) from ⟨FW_13.out.cell 0 (v := .slice U1 2 u1) rfl, FW_13.out.cell 1 (v := .slice V1 2 v1) rfl, FW_13.out.cell 2 (v := .slice U2 2 u2) rfl, FW_13.out.cell 3 (v := .slice V2 2 v2) rfl, FW_13.out.cell 4 (v := .slice U3 2 u3) rfl, FW_13.out.cell 5 (v := .slice V3 2 v3) rfl⟩)
    have QF13 := Lib.hid (show ∀ w', Below w13.heap.size w13 w' → w'.cell? ⟨b9, 0, none⟩ = some (.slice U1 2 u1) ∧ w'.cell? ⟨b9, 1, none⟩ = some (.slice V1 2 v1) ∧ w'.cell? ⟨b9, 2, none⟩ = some (.slice U2 2 u2) ∧ w'.cell? ⟨b9, 3, none⟩ = some (.slice V2 2 v2) ∧ w'.cell? ⟨b9, 4, none⟩ = some (.slice U3 2 u3) ∧ w'.cell? ⟨b9, 5, none⟩ = some (.slice V3 2 v3) from fun w' hb => ⟨(FW_13.out.below hb (Nat.le_refl _)).cell 0 (v := .slice U1 2 u1) rfl, (FW_13.out.below hb (Nat.le_refl _)).cell 1 (v := .slice V1 2 v1) rfl, (FW_13.out.below hb (Nat.le_refl _)).cell 2 (v := .slice U2 2 u2) rfl, (FW_13.out.below hb (Nat.le_refl _)).cell 3 (v := .slice V2 2 v2) rfl, (FW_13.out.below hb (Nat.le_refl _)).cell 4 (v := .slice U3 2 u3) rfl, (FW_13.out.below hb (Nat.le_refl _)).cell 5 (v := .slice V3 2 v3) rfl⟩)
    go_region_held3 (fun w' => w'.cell? ⟨b9, 0, none⟩ = some (.slice U1 2 u1) ∧ w'.cell? ⟨b9, 1, none⟩ = some (.slice V1 2 v1) ∧ w'.cell? ⟨b9, 2, none⟩ = some (.slice U2 2 u2) ∧ w'.cell? ⟨b9, 3, none⟩ = some (.slice V2 2 v2) ∧ w'.cell? ⟨b9, 4, none⟩ = some (.slice U3 2 u3) ∧ w'.cell? ⟨b9, 5, none⟩ = some (.slice V3 2 v3)) (first | with_reducible exact QF13.out _ RB15.out | with_reducible exact QF13.out _ RB14.out | with_reducible exact QS13.out | with_reducible exact QF13.out _ RB13.out) (first
          | (go_at_call 74; have := RB14; clear this; refine (limb_Extend C1 4 d1 (mnr cx cy ax ay dx dy) 3 3 rfl _ RC_14.out (fit_mono (mnr_fit hp.e hp.f hp.a hp.b hp.g hp.h) (by omega)) rfl rfl).mono ?_; rintro e w15 ⟨C2, d2, rfl, SC, B⟩; have RB15 := Lib.hid (RB14.out.trans (B.mono RB14.out.size)); have RC_15 := Lib.hid (RC_14.out.below B (Nat.le_refl _)); have RM_15 := Lib.hid SC; clear B SC)
          | (go_at_call 75; have := RB13; clear this; refine (diff_Cross U3 V3 U1 V1 u3 v3 u1 v1 _ _ _ _ _ (FX3_13.out.below RB13.out (Nat.le_refl _)) (FY3_13.out.below RB13.out (Nat.le_refl _)) (FX1_13.out.below RB13.out (Nat.le_refl _)) (FY1_13.out.below RB13.out (Nat.le_refl _)) (fit_sub hp.e hp.g) (fit_sub hp.f hp.h) (fit_sub hp.a hp.g) (fit_sub hp.b hp.h)).mono ?_; rintro e w14 ⟨⟨C1, d1, rfl, SC⟩, B⟩; have RB14 := Lib.hid (RB13.out.trans (B.mono RB13.out.size)); have RC_14 := Lib.hid (show Sl _ .u64 C1 4 d1 (lmb (mnr cx cy ax ay dx dy)) from SC); clear B SC))
    have FW_15 := Lib.hid (FW_13.out.below RB15.out (Nat.le_refl _))
    have FX1_15 := Lib.hid (FX1_13.out.below RB15.out (Nat.le_refl _))
    have FY1_15 := Lib.hid (FY1_13.out.below RB15.out (Nat.le_refl _))
    have FX2_15 := Lib.hid (FX2_13.out.below RB15.out (Nat.le_refl _))
    have FY2_15 := Lib.hid (FY2_13.out.below RB15.out (Nat.le_refl _))
    have FX3_15 := Lib.hid (FX3_13.out.below RB15.out (Nat.le_refl _))
    have FY3_15 := Lib.hid (FY3_13.out.below RB15.out (Nat.le_refl _))
    have FZ_15 := Lib.hid (FZ_13.out.below RB15.out (Nat.le_refl _))
    have HB15 := Lib.hid (HB13.out.trans (RB15.out.mono HB13.out.size))
    clear HB13 FW_13 FX1_13 FY1_13 FX2_13 FY2_13 FX3_13 FY3_13 FZ_13
    have vW0 := FW_15.out.cell 0 (v := .slice U1 2 u1) rfl
    have vW1 := FW_15.out.cell 1 (v := .slice V1 2 v1) rfl
    have vW2 := FW_15.out.cell 2 (v := .slice U2 2 u2) rfl
    have vW3 := FW_15.out.cell 3 (v := .slice V2 2 v2) rfl
    have vW4 := FW_15.out.cell 4 (v := .slice U3 2 u3) rfl
    have vW5 := FW_15.out.cell 5 (v := .slice V3 2 v3) rfl
    go_wp2_with fail
    refine (diff_Norm U2 V2 u2 v2 _ _ _ FX2_15.out FY2_15.out (fit_sub hp.c hp.g) (fit_sub hp.d hp.h)).mono ?_
    rintro e w16 ⟨⟨L1, l1, rfl, SL0⟩, B⟩
    clear vW0 vW1 vW2 vW3 vW4 vW5
    have SL := (show Sl _ .u64 L1 4 l1 (lmb (nrm bx b_ dx dy)) from SL0); clear SL0
    have HB16 := Lib.hid (HB15.out.trans (B.mono HB15.out.size))
    have FW_16 := Lib.hid (FW_15.out.below B (Nat.le_refl _))
    have FX1_16 := Lib.hid (FX1_15.out.below B (Nat.le_refl _))
    have FY1_16 := Lib.hid (FY1_15.out.below B (Nat.le_refl _))
    have FX2_16 := Lib.hid (FX2_15.out.below B (Nat.le_refl _))
    have FY2_16 := Lib.hid (FY2_15.out.below B (Nat.le_refl _))
    have FX3_16 := Lib.hid (FX3_15.out.below B (Nat.le_refl _))
    have FY3_16 := Lib.hid (FY3_15.out.below B (Nat.le_refl _))
    have FZ_16 := Lib.hid (FZ_15.out.below B (Nat.le_refl _))
    have FM_16 := Lib.hid (RM_15.out.below B (Nat.le_refl _))
    have FL_16 := Lib.hid SL
    clear B SL HB15 FW_15 FX1_15 FY1_15 FX2_15 FY2_15 FX3_15 FY3_15 FZ_15 RM_15
    go_wp2_with fail
    refine (limb_Extend L1 4 l1 (nrm bx b_ dx dy) 3 3 rfl _ FL_16.out (fit_mono (nrm_fit hp.c hp.d hp.g hp.h) (by omega)) rfl rfl).mono ?_
    rintro e w17 ⟨L2, l2, rfl, SL, B⟩
    have HB17 := Lib.hid (HB16.out.trans (B.mono HB16.out.size))
    have FW_17 := Lib.hid (FW_16.out.below B (Nat.le_refl _))
    have FX1_17 := Lib.hid (FX1_16.out.below B (Nat.le_refl _))
    have FY1_17 := Lib.hid (FY1_16.out.below B (Nat.le_refl _))
    have FX2_17 := Lib.hid (FX2_16.out.below B (Nat.le_refl _))
    have FY2_17 := Lib.hid (FY2_16.out.below B (Nat.le_refl _))
    have FX3_17 := Lib.hid (FX3_16.out.below B (Nat.le_refl _))
    have FY3_17 := Lib.hid (FY3_16.out.below B (Nat.le_refl _))
    have FZ_17 := Lib.hid (FZ_16.out.below B (Nat.le_refl _))
    have FM_17 := Lib.hid (FM_16.out.below B (Nat.le_refl _))
    have FL_17 := Lib.hid (FL_16.out.below B (Nat.le_refl _))
    have FL_17 := Lib.hid SL
    clear B SL HB16 FW_16 FX1_16 FY1_16 FX2_16 FY2_16 FX3_16 FY3_16 FZ_16 FM_16 FL_16
    go_wp2_with fail
    refine (limb_Mul L2 C2 3 l2 3 d2 (nrm bx b_ dx dy) (mnr cx cy ax ay dx dy) _ FL_17.out FM_17.out (nrm_fit hp.c hp.d hp.g hp.h) (mnr_fit hp.e hp.f hp.a hp.b hp.g hp.h) rfl rfl (by omega)).mono ?_
    rintro e w18 ⟨K1, q1, rfl, SK0, B⟩
    have SK := (show Sl _ .u64 K1 6 q1 (lmb (nrm bx b_ dx dy * mnr cx cy ax ay dx dy)) from SK0); clear SK0
    have HB18 := Lib.hid (HB17.out.trans (B.mono HB17.out.size))
    have FW_18 := Lib.hid (FW_17.out.below B (Nat.le_refl _))
    have FX1_18 := Lib.hid (FX1_17.out.below B (Nat.le_refl _))
    have FY1_18 := Lib.hid (FY1_17.out.below B (Nat.le_refl _))
    have FX2_18 := Lib.hid (FX2_17.out.below B (Nat.le_refl _))
    have FY2_18 := Lib.hid (FY2_17.out.below B (Nat.le_refl _))
    have FX3_18 := Lib.hid (FX3_17.out.below B (Nat.le_refl _))
    have FY3_18 := Lib.hid (FY3_17.out.below B (Nat.le_refl _))
    have FZ_18 := Lib.hid (FZ_17.out.below B (Nat.le_refl _))
    have FM_18 := Lib.hid (FM_17.out.below B (Nat.le_refl _))
    have FL_18 := Lib.hid (FL_17.out.below B (Nat.le_refl _))
    have FK_18 := Lib.hid SK
    clear B SK HB17 FW_17 FX1_17 FY1_17 FX2_17 FY2_17 FX3_17 FY3_17 FZ_17 FM_17 FL_17
    go_wp2_with fail
    refine (limb_Extend K1 6 q1 (nrm bx b_ dx dy * mnr cx cy ax ay dx dy) 5 5 rfl _ FK_18.out (mul_fit6 (nrm_fit hp.c hp.d hp.g hp.h) (mnr_fit hp.e hp.f hp.a hp.b hp.g hp.h)) rfl rfl).mono ?_
    rintro e w19 ⟨K2, q2, rfl, SK, B⟩
    have HB19 := Lib.hid (HB18.out.trans (B.mono HB18.out.size))
    have FW_19 := Lib.hid (FW_18.out.below B (Nat.le_refl _))
    have FX1_19 := Lib.hid (FX1_18.out.below B (Nat.le_refl _))
    have FY1_19 := Lib.hid (FY1_18.out.below B (Nat.le_refl _))
    have FX2_19 := Lib.hid (FX2_18.out.below B (Nat.le_refl _))
    have FY2_19 := Lib.hid (FY2_18.out.below B (Nat.le_refl _))
    have FX3_19 := Lib.hid (FX3_18.out.below B (Nat.le_refl _))
    have FY3_19 := Lib.hid (FY3_18.out.below B (Nat.le_refl _))
    have FZ_19 := Lib.hid (FZ_18.out.below B (Nat.le_refl _))
    have FK_19 := Lib.hid (FK_18.out.below B (Nat.le_refl _))
    have FK_19 := Lib.hid SK
    clear B SK HB18 FW_18 FX1_18 FY1_18 FX2_18 FY2_18 FX3_18 FY3_18 FZ_18 FK_18
    go_wp2_with fail
    refine (limb_Add Z1 K2 5 z1 q2 (0 + nrm ax ay dx dy * mnr bx b_ cx cy dx dy) (nrm bx b_ dx dy * mnr cx cy ax ay dx dy) _ FZ_19.out FK_19.out rfl).mono ?_
    rintro e w20 ⟨Z2, z2, rfl, SZ, B⟩
    have HB20 := Lib.hid (HB19.out.trans (B.mono HB19.out.size))
    have FW_20 := Lib.hid (FW_19.out.below B (Nat.le_refl _))
    have FX1_20 := Lib.hid (FX1_19.out.below B (Nat.le_refl _))
    have FY1_20 := Lib.hid (FY1_19.out.below B (Nat.le_refl _))
    have FX2_20 := Lib.hid (FX2_19.out.below B (Nat.le_refl _))
    have FY2_20 := Lib.hid (FY2_19.out.below B (Nat.le_refl _))
    have FX3_20 := Lib.hid (FX3_19.out.below B (Nat.le_refl _))
    have FY3_20 := Lib.hid (FY3_19.out.below B (Nat.le_refl _))
    have FZ_20 := Lib.hid (FZ_19.out.below B (Nat.le_refl _))
    have FK_20 := Lib.hid (FK_19.out.below B (Nat.le_refl _))
    have FZ_20 := Lib.hid SZ
    clear B SZ HB19 FW_19 FX1_19 FY1_19 FX2_19 FY2_19 FX3_19 FY3_19 FZ_19 FK_19
    go_wp2_with fail
    rw [rounds_succ]
    go_wp2_with fail
    have RB20 := Lib.hid (below_drew0 w20)
    have QS20 := Lib.hid (show w20.cell? ⟨b9, 0, none⟩ = some (.slice U1 2 u1) ∧ w20.cell? ⟨b9, 1, none⟩ = some (.slice V1 2 v1) ∧ w20.cell? ⟨b9, 2, none⟩ = some (.slice U2 2 u2) ∧ w20.cell? ⟨b9, 3, none⟩ = some (.slice V2 2 v2) ∧ w20.cell? ⟨b9, 4, none⟩ = some (.slice U3 2 u3) ∧ w20.cell? ⟨b9, 5, none⟩ = some (.slice V3 2 v3) from ⟨FW_20.out.cell 0 (v := .slice U1 2 u1) rfl, FW_20.out.cell 1 (v := .slice V1 2 v1) rfl, FW_20.out.cell 2 (v := .slice U2 2 u2) rfl, FW_20.out.cell 3 (v := .slice V2 2 v2) rfl, FW_20.out.cell 4 (v := .slice U3 2 u3) rfl, FW_20.out.cell 5 (v := .slice V3 2 v3) rfl⟩)
    have QF20 := Lib.hid (show ∀ w', Below w20.heap.size w20 w' → w'.cell? ⟨b9, 0, none⟩ = some (.slice U1 2 u1) ∧ w'.cell? ⟨b9, 1, none⟩ = some (.slice V1 2 v1) ∧ w'.cell? ⟨b9, 2, none⟩ = some (.slice U2 2 u2) ∧ w'.cell? ⟨b9, 3, none⟩ = some (.slice V2 2 v2) ∧ w'.cell? ⟨b9, 4, none⟩ = some (.slice U3 2 u3) ∧ w'.cell? ⟨b9, 5, none⟩ = some (.slice V3 2 v3) from fun w' hb => ⟨(FW_20.out.below hb (Nat.le_refl _)).cell 0 (v := .slice U1 2 u1) rfl, (FW_20.out.below hb (Nat.le_refl _)).cell 1 (v := .slice V1 2 v1) rfl, (FW_20.out.below hb (Nat.le_refl _)).cell 2 (v := .slice U2 2 u2) rfl, (FW_20.out.below hb (Nat.le_refl _)).cell 3 (v := .slice V2 2 v2) rfl, (FW_20.out.below hb (Nat.le_refl _)).cell 4 (v := .slice U3 2 u3) rfl, (FW_20.out.below hb (Nat.le_refl _)).cell 5 (v := .slice V3 2 v3) rfl⟩)
    go_region_held3 (fun w' => w'.cell? ⟨b9, 0, none⟩ = some (.slice U1 2 u1) ∧ w'.cell? ⟨b9, 1, none⟩ = some (.slice V1 2 v1) ∧ w'.cell? ⟨b9, 2, none⟩ = some (.slice U2 2 u2) ∧ w'.cell? ⟨b9, 3, none⟩ = some (.slice V2 2 v2) ∧ w'.cell? ⟨b9, 4, none⟩ = some (.slice U3 2 u3) ∧ w'.cell? ⟨b9, 5, none⟩ = some (.slice V3 2 v3)) (first | with_reducible exact QF20.out _ RB22.out | with_reducible exact QF20.out _ RB21.out | with_reducible exact QS20.out | with_reducible exact QF20.out _ RB20.out) (first
          | (go_at_call 74; have := RB21; clear this; refine (limb_Extend C1 4 d1 (mnr ax ay bx b_ dx dy) 3 3 rfl _ RC_21.out (fit_mono (mnr_fit hp.a hp.b hp.c hp.d hp.g hp.h) (by omega)) rfl rfl).mono ?_; rintro e w22 ⟨C2, d2, rfl, SC, B⟩; have RB22 := Lib.hid (RB21.out.trans (B.mono RB21.out.size)); have RC_22 := Lib.hid (RC_21.out.below B (Nat.le_refl _)); have RM_22 := Lib.hid SC; clear B SC)
          | (go_at_call 75; have := RB20; clear this; refine (diff_Cross U1 V1 U2 V2 u1 v1 u2 v2 _ _ _ _ _ (FX1_20.out.below RB20.out (Nat.le_refl _)) (FY1_20.out.below RB20.out (Nat.le_refl _)) (FX2_20.out.below RB20.out (Nat.le_refl _)) (FY2_20.out.below RB20.out (Nat.le_refl _)) (fit_sub hp.a hp.g) (fit_sub hp.b hp.h) (fit_sub hp.c hp.g) (fit_sub hp.d hp.h)).mono ?_; rintro e w21 ⟨⟨C1, d1, rfl, SC⟩, B⟩; have RB21 := Lib.hid (RB20.out.trans (B.mono RB20.out.size)); have RC_21 := Lib.hid (show Sl _ .u64 C1 4 d1 (lmb (mnr ax ay bx b_ dx dy)) from SC); clear B SC))
    have FW_22 := Lib.hid (FW_20.out.below RB22.out (Nat.le_refl _))
    have FX1_22 := Lib.hid (FX1_20.out.below RB22.out (Nat.le_refl _))
    have FY1_22 := Lib.hid (FY1_20.out.below RB22.out (Nat.le_refl _))
    have FX2_22 := Lib.hid (FX2_20.out.below RB22.out (Nat.le_refl _))
    have FY2_22 := Lib.hid (FY2_20.out.below RB22.out (Nat.le_refl _))
    have FX3_22 := Lib.hid (FX3_20.out.below RB22.out (Nat.le_refl _))
    have FY3_22 := Lib.hid (FY3_20.out.below RB22.out (Nat.le_refl _))
    have FZ_22 := Lib.hid (FZ_20.out.below RB22.out (Nat.le_refl _))
    have HB22 := Lib.hid (HB20.out.trans (RB22.out.mono HB20.out.size))
    clear HB20 FW_20 FX1_20 FY1_20 FX2_20 FY2_20 FX3_20 FY3_20 FZ_20
    have vW0 := FW_22.out.cell 0 (v := .slice U1 2 u1) rfl
    have vW1 := FW_22.out.cell 1 (v := .slice V1 2 v1) rfl
    have vW2 := FW_22.out.cell 2 (v := .slice U2 2 u2) rfl
    have vW3 := FW_22.out.cell 3 (v := .slice V2 2 v2) rfl
    have vW4 := FW_22.out.cell 4 (v := .slice U3 2 u3) rfl
    have vW5 := FW_22.out.cell 5 (v := .slice V3 2 v3) rfl
    go_wp2_with fail
    refine (diff_Norm U3 V3 u3 v3 _ _ _ FX3_22.out FY3_22.out (fit_sub hp.e hp.g) (fit_sub hp.f hp.h)).mono ?_
    rintro e w23 ⟨⟨L1, l1, rfl, SL0⟩, B⟩
    clear vW0 vW1 vW2 vW3 vW4 vW5
    have SL := (show Sl _ .u64 L1 4 l1 (lmb (nrm cx cy dx dy)) from SL0); clear SL0
    have HB23 := Lib.hid (HB22.out.trans (B.mono HB22.out.size))
    have FW_23 := Lib.hid (FW_22.out.below B (Nat.le_refl _))
    have FX1_23 := Lib.hid (FX1_22.out.below B (Nat.le_refl _))
    have FY1_23 := Lib.hid (FY1_22.out.below B (Nat.le_refl _))
    have FX2_23 := Lib.hid (FX2_22.out.below B (Nat.le_refl _))
    have FY2_23 := Lib.hid (FY2_22.out.below B (Nat.le_refl _))
    have FX3_23 := Lib.hid (FX3_22.out.below B (Nat.le_refl _))
    have FY3_23 := Lib.hid (FY3_22.out.below B (Nat.le_refl _))
    have FZ_23 := Lib.hid (FZ_22.out.below B (Nat.le_refl _))
    have FM_23 := Lib.hid (RM_22.out.below B (Nat.le_refl _))
    have FL_23 := Lib.hid SL
    clear B SL HB22 FW_22 FX1_22 FY1_22 FX2_22 FY2_22 FX3_22 FY3_22 FZ_22 RM_22
    go_wp2_with fail
    refine (limb_Extend L1 4 l1 (nrm cx cy dx dy) 3 3 rfl _ FL_23.out (fit_mono (nrm_fit hp.e hp.f hp.g hp.h) (by omega)) rfl rfl).mono ?_
    rintro e w24 ⟨L2, l2, rfl, SL, B⟩
    have HB24 := Lib.hid (HB23.out.trans (B.mono HB23.out.size))
    have FW_24 := Lib.hid (FW_23.out.below B (Nat.le_refl _))
    have FX1_24 := Lib.hid (FX1_23.out.below B (Nat.le_refl _))
    have FY1_24 := Lib.hid (FY1_23.out.below B (Nat.le_refl _))
    have FX2_24 := Lib.hid (FX2_23.out.below B (Nat.le_refl _))
    have FY2_24 := Lib.hid (FY2_23.out.below B (Nat.le_refl _))
    have FX3_24 := Lib.hid (FX3_23.out.below B (Nat.le_refl _))
    have FY3_24 := Lib.hid (FY3_23.out.below B (Nat.le_refl _))
    have FZ_24 := Lib.hid (FZ_23.out.below B (Nat.le_refl _))
    have FM_24 := Lib.hid (FM_23.out.below B (Nat.le_refl _))
    have FL_24 := Lib.hid (FL_23.out.below B (Nat.le_refl _))
    have FL_24 := Lib.hid SL
    clear B SL HB23 FW_23 FX1_23 FY1_23 FX2_23 FY2_23 FX3_23 FY3_23 FZ_23 FM_23 FL_23
    go_wp2_with fail
    refine (limb_Mul L2 C2 3 l2 3 d2 (nrm cx cy dx dy) (mnr ax ay bx b_ dx dy) _ FL_24.out FM_24.out (nrm_fit hp.e hp.f hp.g hp.h) (mnr_fit hp.a hp.b hp.c hp.d hp.g hp.h) rfl rfl (by omega)).mono ?_
    rintro e w25 ⟨K1, q1, rfl, SK0, B⟩
    have SK := (show Sl _ .u64 K1 6 q1 (lmb (nrm cx cy dx dy * mnr ax ay bx b_ dx dy)) from SK0); clear SK0
    have HB25 := Lib.hid (HB24.out.trans (B.mono HB24.out.size))
    have FW_25 := Lib.hid (FW_24.out.below B (Nat.le_refl _))
    have FX1_25 := Lib.hid (FX1_24.out.below B (Nat.le_refl _))
    have FY1_25 := Lib.hid (FY1_24.out.below B (Nat.le_refl _))
    have FX2_25 := Lib.hid (FX2_24.out.below B (Nat.le_refl _))
    have FY2_25 := Lib.hid (FY2_24.out.below B (Nat.le_refl _))
    have FX3_25 := Lib.hid (FX3_24.out.below B (Nat.le_refl _))
    have FY3_25 := Lib.hid (FY3_24.out.below B (Nat.le_refl _))
    have FZ_25 := Lib.hid (FZ_24.out.below B (Nat.le_refl _))
    have FM_25 := Lib.hid (FM_24.out.below B (Nat.le_refl _))
    have FL_25 := Lib.hid (FL_24.out.below B (Nat.le_refl _))
    have FK_25 := Lib.hid SK
    clear B SK HB24 FW_24 FX1_24 FY1_24 FX2_24 FY2_24 FX3_24 FY3_24 FZ_24 FM_24 FL_24
    go_wp2_with fail
    refine (limb_Extend K1 6 q1 (nrm cx cy dx dy * mnr ax ay bx b_ dx dy) 5 5 rfl _ FK_25.out (mul_fit6 (nrm_fit hp.e hp.f hp.g hp.h) (mnr_fit hp.a hp.b hp.c hp.d hp.g hp.h)) rfl rfl).mono ?_
    rintro e w26 ⟨K2, q2, rfl, SK, B⟩
    have HB26 := Lib.hid (HB25.out.trans (B.mono HB25.out.size))
    have FW_26 := Lib.hid (FW_25.out.below B (Nat.le_refl _))
    have FX1_26 := Lib.hid (FX1_25.out.below B (Nat.le_refl _))
    have FY1_26 := Lib.hid (FY1_25.out.below B (Nat.le_refl _))
    have FX2_26 := Lib.hid (FX2_25.out.below B (Nat.le_refl _))
    have FY2_26 := Lib.hid (FY2_25.out.below B (Nat.le_refl _))
    have FX3_26 := Lib.hid (FX3_25.out.below B (Nat.le_refl _))
    have FY3_26 := Lib.hid (FY3_25.out.below B (Nat.le_refl _))
    have FZ_26 := Lib.hid (FZ_25.out.below B (Nat.le_refl _))
    have FK_26 := Lib.hid (FK_25.out.below B (Nat.le_refl _))
    have FK_26 := Lib.hid SK
    clear B SK HB25 FW_25 FX1_25 FY1_25 FX2_25 FY2_25 FX3_25 FY3_25 FZ_25 FK_25
    go_wp2_with fail
    refine (limb_Add Z2 K2 5 z2 q2 (0 + nrm ax ay dx dy * mnr bx b_ cx cy dx dy + nrm bx b_ dx dy * mnr cx cy ax ay dx dy) (nrm cx cy dx dy * mnr ax ay bx b_ dx dy) _ FZ_26.out FK_26.out rfl).mono ?_
    rintro e w27 ⟨Z3, z3, rfl, SZ, B⟩
    have HB27 := Lib.hid (HB26.out.trans (B.mono HB26.out.size))
    have FW_27 := Lib.hid (FW_26.out.below B (Nat.le_refl _))
    have FX1_27 := Lib.hid (FX1_26.out.below B (Nat.le_refl _))
    have FY1_27 := Lib.hid (FY1_26.out.below B (Nat.le_refl _))
    have FX2_27 := Lib.hid (FX2_26.out.below B (Nat.le_refl _))
    have FY2_27 := Lib.hid (FY2_26.out.below B (Nat.le_refl _))
    have FX3_27 := Lib.hid (FX3_26.out.below B (Nat.le_refl _))
    have FY3_27 := Lib.hid (FY3_26.out.below B (Nat.le_refl _))
    have FZ_27 := Lib.hid (FZ_26.out.below B (Nat.le_refl _))
    have FK_27 := Lib.hid (FK_26.out.below B (Nat.le_refl _))
    have FZ_27 := Lib.hid SZ
    clear B SZ HB26 FW_26 FX1_26 FY1_26 FX2_26 FY2_26 FX3_26 FY3_26 FZ_26 FK_26
    go_wp2_with fail
    rw [rounds_succ]
    go_wp2_with fail
    go_ret
    have ez : 0 + nrm ax ay dx dy * mnr bx b_ cx cy dx dy + nrm bx b_ dx dy * mnr cx cy ax ay dx dy + nrm cx cy dx dy * mnr ax ay bx b_ dx dy = circ ax ay bx b_ cx cy dx dy := by unfold circ; omega
    exact ⟨⟨_, _, rfl, by rw [← ez]; exact FZ_27.out⟩, HB27.out⟩

set_option maxHeartbeats 1000000 in
theorem circle_Sign (ax ay bx b_ cx cy dx dy : Int) (hp : P4 ax ay bx b_ cx cy dx dy) (w : World) (hT : TabM w) :
    Calls Tryz.prog 144 #[.agg #[.int .i64 ax, .int .i64 ay], .agg #[.int .i64 bx, .int .i64 b_], .agg #[.int .i64 cx, .int .i64 cy], .agg #[.int .i64 dx, .int .i64 dy]] w fun e w' => e = .returned (.int .i64 (sg (circ ax ay bx b_ cx cy dx dy))) ∧ Below w.heap.size w w' := by
  have HB0 := Lib.hid (Below.refl w.heap.size w)
  have FT := Lib.hid hT
  clear hT
  have HF := Lib.hid hp.fit
  go_enter Tryz.func144, Tryz.ntmps144
  go_wp2_with fail
  refine (circle_Value _ _ _ _ _ _ _ _ hp _).mono ?_
  rintro e w1 ⟨⟨U1, u1, rfl, S1⟩, B⟩
  have HB1 := Lib.hid (((((HB0.out.alloc HB0.out.size _).alloc (HB0.out.alloc HB0.out.size _).size _).alloc ((HB0.out.alloc HB0.out.size _).alloc (HB0.out.alloc HB0.out.size _).size _).size _).alloc (((HB0.out.alloc HB0.out.size _).alloc (HB0.out.alloc HB0.out.size _).size _).alloc ((HB0.out.alloc HB0.out.size _).alloc (HB0.out.alloc HB0.out.size _).size _).size _).size _).trans (B.mono ((((HB0.out.alloc HB0.out.size _).alloc (HB0.out.alloc HB0.out.size _).size _).alloc ((HB0.out.alloc HB0.out.size _).alloc (HB0.out.alloc HB0.out.size _).size _).size _).alloc (((HB0.out.alloc HB0.out.size _).alloc (HB0.out.alloc HB0.out.size _).size _).alloc ((HB0.out.alloc HB0.out.size _).alloc (HB0.out.alloc HB0.out.size _).size _).size _).size _).size))
  have FT_1 := Lib.hid (((((FT.out.alloc _).alloc _).alloc _).alloc _).below B (Nat.le_refl _))
  have FX_1 := Lib.hid S1
  clear B S1 HB0 FT
  go_wp2_with fail
  refine (limb_Sign _ _ _ _ _ FX_1.out HF.out rfl FT_1.out).mono ?_
  rintro e w2 ⟨rfl, B⟩
  have HB2 := Lib.hid (HB1.out.trans (B.mono HB1.out.size))
  have FT_2 := Lib.hid (FT_1.out.below B (Nat.le_refl _))
  have FX_2 := Lib.hid (FX_1.out.below B (Nat.le_refl _))
  clear B  HB1 FT_1 FX_1
  go_wp2_with fail
  go_ret
  exact ⟨rfl, HB2.out⟩

theorem sg_mul_range (x y : Int) : -1 ≤ sg x * sg y ∧ sg x * sg y ≤ 1 := by
  have h := abs_mul_le (a := 1) (b := 1) (sign_range x) (sign_range y)
  exact h
theorem wrap_sg2 (x y : Int) : IntKind.i64.wrap (sg x * sg y) = sg x * sg y := by have := sg_mul_range x y; rw [IntKind.wrap_i64]; omega
set_option maxHeartbeats 2000000 in
theorem circle_Side (ax ay bx b_ cx cy dx dy : Int) (hp : P4 ax ay bx b_ cx cy dx dy) (w : World) (hT : TabM w) :
    Calls Tryz.prog 202 #[.agg #[.int .i64 ax, .int .i64 ay], .agg #[.int .i64 bx, .int .i64 b_], .agg #[.int .i64 cx, .int .i64 cy], .agg #[.int .i64 dx, .int .i64 dy]] w fun e w' => e = .returned (.int .i64 (sg (circ ax ay bx b_ cx cy dx dy) * sg (det ax ay bx b_ cx cy))) ∧ Below w.heap.size w w' := by
  have HB0 := Lib.hid (Below.refl w.heap.size w)
  have FT := Lib.hid hT
  clear hT
  have r1 := sign_range (circ ax ay bx b_ cx cy dx dy); have r2 := sign_range (det ax ay bx b_ cx cy)
  have hw := wrap_sg2 (circ ax ay bx b_ cx cy dx dy) (det ax ay bx b_ cx cy)
  go_enter Tryz.func202, Tryz.ntmps202
  go_wp2_with fail
  have B : Below w.heap.size w ((((w.alloc (.cells #[.int .i64 ax, .int .i64 ay] 23)).alloc (.cells #[.int .i64 bx, .int .i64 b_] 23)).alloc (.cells #[.int .i64 cx, .int .i64 cy] 23)).alloc (.cells #[.int .i64 dx, .int .i64 dy] 23)) := ((((HB0.out.alloc HB0.out.size _).alloc (HB0.out.alloc HB0.out.size _).size _).alloc ((HB0.out.alloc HB0.out.size _).alloc (HB0.out.alloc HB0.out.size _).size _).size _).alloc (((HB0.out.alloc HB0.out.size _).alloc (HB0.out.alloc HB0.out.size _).size _).alloc ((HB0.out.alloc HB0.out.size _).alloc (HB0.out.alloc HB0.out.size _).size _).size _).size _)
  have C : Below w.heap.size w ((((w.alloc (.cells #[.int .i64 ax, .int .i64 ay] 23)).alloc (.cells #[.int .i64 bx, .int .i64 b_] 23)).alloc (.cells #[.int .i64 cx, .int .i64 cy] 23)).alloc (.cells #[.int .i64 dx, .int .i64 dy] 23)) := (((((Below.refl w.heap.size w).alloc (Nat.le_refl _) _).alloc (by simp; try omega) _).alloc (by simp; try omega) _).alloc (by simp; try omega) _)
  have X0 : Bx ((((w.alloc (.cells #[.int .i64 ax, .int .i64 ay] 23)).alloc (.cells #[.int .i64 bx, .int .i64 b_] 23)).alloc (.cells #[.int .i64 cx, .int .i64 cy] 23)).alloc (.cells #[.int .i64 dx, .int .i64 dy] 23)) (w.heap.size) #[.int .i64 ax, .int .i64 ay] 23 := by simpa using ((((Bx.new w #[.int .i64 ax, .int .i64 ay] 23).alloc _).alloc _).alloc _)
  have X1 : Bx ((((w.alloc (.cells #[.int .i64 ax, .int .i64 ay] 23)).alloc (.cells #[.int .i64 bx, .int .i64 b_] 23)).alloc (.cells #[.int .i64 cx, .int .i64 cy] 23)).alloc (.cells #[.int .i64 dx, .int .i64 dy] 23)) (w.heap.size + 1) #[.int .i64 bx, .int .i64 b_] 23 := by simpa using (((Bx.new (w.alloc (.cells #[.int .i64 ax, .int .i64 ay] 23)) #[.int .i64 bx, .int .i64 b_] 23).alloc _).alloc _)
  have X2 : Bx ((((w.alloc (.cells #[.int .i64 ax, .int .i64 ay] 23)).alloc (.cells #[.int .i64 bx, .int .i64 b_] 23)).alloc (.cells #[.int .i64 cx, .int .i64 cy] 23)).alloc (.cells #[.int .i64 dx, .int .i64 dy] 23)) (w.heap.size + 1 + 1) #[.int .i64 cx, .int .i64 cy] 23 := by simpa using ((Bx.new ((w.alloc (.cells #[.int .i64 ax, .int .i64 ay] 23)).alloc (.cells #[.int .i64 bx, .int .i64 b_] 23)) #[.int .i64 cx, .int .i64 cy] 23).alloc _)
  have X3 : Bx ((((w.alloc (.cells #[.int .i64 ax, .int .i64 ay] 23)).alloc (.cells #[.int .i64 bx, .int .i64 b_] 23)).alloc (.cells #[.int .i64 cx, .int .i64 cy] 23)).alloc (.cells #[.int .i64 dx, .int .i64 dy] 23)) (w.heap.size + 1 + 1 + 1) #[.int .i64 dx, .int .i64 dy] 23 := by simpa using (Bx.new (((w.alloc (.cells #[.int .i64 ax, .int .i64 ay] 23)).alloc (.cells #[.int .i64 bx, .int .i64 b_] 23)).alloc (.cells #[.int .i64 cx, .int .i64 cy] 23)) #[.int .i64 dx, .int .i64 dy] 23)
  have FT_1 := Lib.hid (FT.out.below C (Nat.le_refl _))
  have HB1 := Lib.hid B
  have FP_1 := Lib.hid X0
  have FQ_1 := Lib.hid X1
  have FR_1 := Lib.hid X2
  have FV_1 := Lib.hid X3
  clear B C X0 X1 X2 X3 HB0 FT
  generalize ((((w.alloc (.cells #[.int .i64 ax, .int .i64 ay] 23)).alloc (.cells #[.int .i64 bx, .int .i64 b_] 23)).alloc (.cells #[.int .i64 cx, .int .i64 cy] 23)).alloc (.cells #[.int .i64 dx, .int .i64 dy] 23)) = w1 at *
  have RB1 := Lib.hid (below_drew0 w1)
  have QS1 := Lib.hid (show w1.cell? ⟨w.heap.size, 0, none⟩ = some (.int .i64 ax) ∧ w1.cell? ⟨w.heap.size, 1, none⟩ = some (.int .i64 ay) ∧ w1.cell? ⟨w.heap.size + 1, 0, none⟩ = some (.int .i64 bx) ∧ w1.cell? ⟨w.heap.size + 1, 1, none⟩ = some (.int .i64 b_) ∧ w1.cell? ⟨w.heap.size + 1 + 1, 0, none⟩ = some (.int .i64 cx) ∧ w1.cell? ⟨w.heap.size + 1 + 1, 1, none⟩ = some (.int .i64 cy) ∧ w1.cell? ⟨w.heap.size + 1 + 1 + 1, 0, none⟩ = some (.int .i64 dx) ∧ w1.cell? ⟨w.heap.size + 1 + 1 + 1, 1, none⟩ = some (.int .i64 dy) from ⟨FP_1.out.cell 0 (v := .int .i64 ax) rfl, FP_1.out.cell 1 (v := .int .i64 ay) rfl, FQ_1.out.cell 0 (v := .int .i64 bx) rfl, FQ_1.out.cell 1 (v := .int .i64 b_) rfl, FR_1.out.cell 0 (v := .int .i64 cx) rfl, FR_1.out.cell 1 (v := .int .i64 cy) rfl, FV_1.out.cell 0 (v := .int .i64 dx) rfl, FV_1.out.cell 1 (v := .int .i64 dy) rfl⟩)
  have QF1 := Lib.hid (show ∀ w', Below w1.heap.size w1 w' → w'.cell? ⟨w.heap.size, 0, none⟩ = some (.int .i64 ax) ∧ w'.cell? ⟨w.heap.size, 1, none⟩ = some (.int .i64 ay) ∧ w'.cell? ⟨w.heap.size + 1, 0, none⟩ = some (.int .i64 bx) ∧ w'.cell? ⟨w.heap.size + 1, 1, none⟩ = some (.int .i64 b_) ∧ w'.cell? ⟨w.heap.size + 1 + 1, 0, none⟩ = some (.int .i64 cx) ∧ w'.cell? ⟨w.heap.size + 1 + 1, 1, none⟩ = some (.int .i64 cy) ∧ w'.cell? ⟨w.heap.size + 1 + 1 + 1, 0, none⟩ = some (.int .i64 dx) ∧ w'.cell? ⟨w.heap.size + 1 + 1 + 1, 1, none⟩ = some (.int .i64 dy) from fun w' hb => ⟨(FP_1.out.below hb (Nat.le_refl _)).cell 0 (v := .int .i64 ax) rfl, (FP_1.out.below hb (Nat.le_refl _)).cell 1 (v := .int .i64 ay) rfl, (FQ_1.out.below hb (Nat.le_refl _)).cell 0 (v := .int .i64 bx) rfl, (FQ_1.out.below hb (Nat.le_refl _)).cell 1 (v := .int .i64 b_) rfl, (FR_1.out.below hb (Nat.le_refl _)).cell 0 (v := .int .i64 cx) rfl, (FR_1.out.below hb (Nat.le_refl _)).cell 1 (v := .int .i64 cy) rfl, (FV_1.out.below hb (Nat.le_refl _)).cell 0 (v := .int .i64 dx) rfl, (FV_1.out.below hb (Nat.le_refl _)).cell 1 (v := .int .i64 dy) rfl⟩)
  go_region_held3 (fun w' => w'.cell? ⟨w.heap.size, 0, none⟩ = some (.int .i64 ax) ∧ w'.cell? ⟨w.heap.size, 1, none⟩ = some (.int .i64 ay) ∧ w'.cell? ⟨w.heap.size + 1, 0, none⟩ = some (.int .i64 bx) ∧ w'.cell? ⟨w.heap.size + 1, 1, none⟩ = some (.int .i64 b_) ∧ w'.cell? ⟨w.heap.size + 1 + 1, 0, none⟩ = some (.int .i64 cx) ∧ w'.cell? ⟨w.heap.size + 1 + 1, 1, none⟩ = some (.int .i64 cy) ∧ w'.cell? ⟨w.heap.size + 1 + 1 + 1, 0, none⟩ = some (.int .i64 dx) ∧ w'.cell? ⟨w.heap.size + 1 + 1 + 1, 1, none⟩ = some (.int .i64 dy)) (first | with_reducible exact QF1.out _ RB3.out | with_reducible exact QF1.out _ RB2.out | with_reducible exact QS1.out | with_reducible exact QF1.out _ RB1.out) (first
      | (go_at_call 28; have := RB2; clear this; refine (orient_Sign _ _ _ _ _ _ ⟨hp.a, hp.b, hp.c, hp.d, hp.e, hp.f⟩ _ (FT_1.out.below RB2.out (Nat.le_refl _))).mono ?_; rintro e w3 ⟨rfl, B⟩; have RB3 := Lib.hid (RB2.out.trans (B.mono RB2.out.size)); clear B )
      | (go_at_call 144; have := RB1; clear this; refine (circle_Sign _ _ _ _ _ _ _ _ hp _ (FT_1.out.below RB1.out (Nat.le_refl _))).mono ?_; rintro e w2 ⟨rfl, B⟩; have RB2 := Lib.hid (RB1.out.trans (B.mono RB1.out.size)); clear B ))
  have FT_3 := Lib.hid (FT_1.out.below RB3.out (Nat.le_refl _))
  have FP_3 := Lib.hid (FP_1.out.below RB3.out (Nat.le_refl _))
  have FQ_3 := Lib.hid (FQ_1.out.below RB3.out (Nat.le_refl _))
  have FR_3 := Lib.hid (FR_1.out.below RB3.out (Nat.le_refl _))
  have FV_3 := Lib.hid (FV_1.out.below RB3.out (Nat.le_refl _))
  have HB3 := Lib.hid (HB1.out.trans (RB3.out.mono HB1.out.size))
  clear HB1 FT_1 FP_1 FQ_1 FR_1 FV_1
  go_wp2_with fail
  go_ret
  exact ⟨rfl, HB3.out⟩

end Go.Proofs.YtjdiilkljgljkaaGreatDoor
namespace Go.Proofs.YtjdiilkljgljkaaGreatDoor
set_option linter.unusedVariables false
set_option linter.unusedSimpArgs false
open Go.RowKit Wd

/-- the orientation of the edge from vertex i and a point -/
def edg (f g : Nat → Int) (n i : Nat) (x y : Int) : Int := det (f i) (g i) (f ((i + 1) % n)) (g ((i + 1) % n)) x y
def inP (n : Nat) : Prop := 3 ≤ n ∧ n ≤ 64
instance (n : Nat) : Decidable (inP n) := inferInstanceAs (Decidable (_ ∧ _))
def ori (f g : Nat → Int) (n : Nat) : Int := if inP n then sg (det (f 0) (g 0) (f 1) (g 1) (f 2) (g 2)) else 0
def allB (p : Nat → Bool) : Nat → Bool
  | 0 => true
  | k + 1 => allB p k && p k
def anyB (p : Nat → Bool) : Nat → Bool
  | 0 => false
  | k + 1 => anyB p k || p k
theorem allB_iff (p : Nat → Bool) : ∀ k, allB p k = true ↔ ∀ i, i < k → p i = true
  | 0 => by simp [allB]
  | k + 1 => by
    simp only [allB, Bool.and_eq_true, allB_iff p k]
    constructor
    · rintro ⟨h1, h2⟩ i hi
      rcases (by omega : i < k ∨ i = k) with h | rfl
      · exact h1 i h
      · exact h2
    · intro h; exact ⟨fun i hi => h i (by omega), h k (by omega)⟩
theorem anyB_iff (p : Nat → Bool) : ∀ k, anyB p k = true ↔ ∃ i, i < k ∧ p i = true
  | 0 => by simp [anyB]
  | k + 1 => by
    simp only [anyB, Bool.or_eq_true, anyB_iff p k]
    constructor
    · rintro (⟨i, h1, h2⟩ | h)
      · exact ⟨i, by omega, h2⟩
      · exact ⟨k, by omega, h⟩
    · rintro ⟨i, h1, h2⟩
      rcases (by omega : i < k ∨ i = k) with h | rfl
      · exact .inl ⟨i, h, h2⟩
      · exact .inr h2
/-- vertex j is passed over at edge i -/
def skip (n i j : Nat) : Bool := decide (j = i) || decide (j = (i + 1) % n)
def okAt (f g : Nat → Int) (n : Nat) (s : Int) (i j : Nat) : Bool := skip n i j || decide (sg (edg f g n i (f j) (g j)) = s)
def validP (f g : Nat → Int) (n : Nat) : Bool := decide (inP n) && !decide (ori f g n = 0) && allB (fun i => allB (okAt f g n (ori f g n) i) n) n
/-- the side of the edge from vertex i -/
def sideP (f g : Nat → Int) (n : Nat) (x y : Int) (i : Nat) : Int := ori f g n * sg (edg f g n i x y)
def locP (f g : Nat → Int) (n : Nat) (x y : Int) : Int := if inP n then sgnM (anyB (fun i => decide (sideP f g n x y i < 0)) n) (anyB (fun i => decide (sideP f g n x y i = 0)) n) else -1
theorem sg_range (x : Int) : sg x = -1 ∨ sg x = 0 ∨ sg x = 1 := by
  unfold sg
  rcases (by omega : x < 0 ∨ x = 0 ∨ 0 < x) with h | rfl | h
  · exact .inl (Int.sign_eq_neg_one_of_neg h)
  · exact .inr (.inl rfl)
  · exact .inr (.inr (Int.sign_eq_one_of_pos h))
theorem ori_range (f g : Nat → Int) (n : Nat) : ori f g n = -1 ∨ ori f g n = 0 ∨ ori f g n = 1 := by
  unfold ori; split
  · exact sg_range _
  · exact .inr (.inl rfl)
theorem sideP_range (f g : Nat → Int) (n : Nat) (x y : Int) (i : Nat) : sideP f g n x y i = -1 ∨ sideP f g n x y i = 0 ∨ sideP f g n x y i = 1 := by
  unfold sideP
  rcases ori_range f g n with h | h | h <;> rcases sg_range (edg f g n i x y) with h2 | h2 | h2 <;> rw [h, h2] <;> decide
/-- the least of 1 and the first k sides -/
def minS (q : Nat → Int) : Nat → Int
  | 0 => 1
  | k + 1 => min (minS q k) (q k)
theorem minS_eq (q : Nat → Int) (hq : ∀ i, q i = -1 ∨ q i = 0 ∨ q i = 1) : ∀ k, minS q k = sgnM (anyB (fun i => decide (q i < 0)) k) (anyB (fun i => decide (q i = 0)) k)
  | 0 => rfl
  | k + 1 => by
    rw [minS, minS_eq q hq k]
    simp only [anyB]
    cases anyB (fun i => decide (q i < 0)) k <;> cases anyB (fun i => decide (q i = 0)) k <;> rcases hq k with h | h | h <;> rw [h] <;> decide
theorem ori_in {f g : Nat → Int} {n : Nat} (h : inP n) : ori f g n = sg (det (f 0) (g 0) (f 1) (g 1) (f 2) (g 2)) := by unfold ori; rw [if_pos h]
theorem ori_out {f g : Nat → Int} {n : Nat} (h : ¬ inP n) : ori f g n = 0 := by unfold ori; rw [if_neg h]
theorem validP_out {f g : Nat → Int} {n : Nat} (h : ¬ inP n) : validP f g n = false := by unfold validP; simp [h]
theorem locP_out {f g : Nat → Int} {n : Nat} {x y : Int} (h : ¬ inP n) : locP f g n x y = -1 := by unfold locP; rw [if_neg h]
theorem locP_in {f g : Nat → Int} {n : Nat} {x y : Int} (h : inP n) : locP f g n x y = minS (sideP f g n x y) n := by
  unfold locP; rw [if_pos h, minS_eq _ (sideP_range f g n x y)]
/-- validity, said in words -/
theorem validP_iff {f g : Nat → Int} {n : Nat} : validP f g n = true ↔ inP n ∧ ori f g n ≠ 0 ∧ ∀ i j, i < n → j < n → j ≠ i → j ≠ (i + 1) % n → sg (edg f g n i (f j) (g j)) = ori f g n := by
  unfold validP
  simp only [Bool.and_eq_true, decide_eq_true_eq, Bool.not_eq_true', decide_eq_false_iff_not, allB_iff, okAt, skip, Bool.or_eq_true]
  constructor
  · rintro ⟨⟨h1, h2⟩, h3⟩
    refine ⟨h1, h2, fun i j hi hj h4 h5 => ?_⟩
    rcases h3 i hi j hj with (h | h) | h
    · exact absurd h h4
    · exact absurd h h5
    · exact h
  · rintro ⟨h1, h2, h3⟩
    refine ⟨⟨h1, h2⟩, fun i hi j hj => ?_⟩
    by_cases h4 : j = i
    · exact .inl (.inl h4)
    · by_cases h5 : j = (i + 1) % n
      · exact .inl (.inr h5)
      · exact .inr (h3 i j hi hj h4 h5)
end Go.Proofs.YtjdiilkljgljkaaGreatDoor
namespace Go.Proofs.YtjdiilkljgljkaaGreatDoor
set_option linter.unusedVariables false
set_option linter.unusedSimpArgs false
open Go.RowKit Wd

theorem Pts.k {w : World} {B n c : Nat} {f g : Nat → Int} (h : Pts w (Option.some ⟨B, 0, none⟩) n c f g) {i : Nat} (hi : i < n) : w.cell? ⟨B, i * 2, none⟩ = Option.some (.int .i64 (f i)) ∧ w.cell? ⟨B, i * 2 + 1, none⟩ = Option.some (.int .i64 (g i)) := by
  obtain ⟨b, off, e, _, hc⟩ := h.at_ (by omega)
  cases e
  have := hc i hi
  rwa [Nat.zero_add] at this
theorem Pts.x0 {w : World} {B n c : Nat} {f g : Nat → Int} (h : Pts w (Option.some ⟨B, 0, none⟩) n c f g) (hi : 0 < n) : w.cell? ⟨B, 0, none⟩ = Option.some (.int .i64 (f 0)) := (h.k hi).1
theorem Pts.y0 {w : World} {B n c : Nat} {f g : Nat → Int} (h : Pts w (Option.some ⟨B, 0, none⟩) n c f g) (hi : 0 < n) : w.cell? ⟨B, 1, none⟩ = Option.some (.int .i64 (g 0)) := (h.k hi).2
theorem Pts.x1 {w : World} {B n c : Nat} {f g : Nat → Int} (h : Pts w (Option.some ⟨B, 0, none⟩) n c f g) (hi : 1 < n) : w.cell? ⟨B, 2, none⟩ = Option.some (.int .i64 (f 1)) := (h.k hi).1
theorem Pts.y1 {w : World} {B n c : Nat} {f g : Nat → Int} (h : Pts w (Option.some ⟨B, 0, none⟩) n c f g) (hi : 1 < n) : w.cell? ⟨B, 3, none⟩ = Option.some (.int .i64 (g 1)) := (h.k hi).2
theorem Pts.x2 {w : World} {B n c : Nat} {f g : Nat → Int} (h : Pts w (Option.some ⟨B, 0, none⟩) n c f g) (hi : 2 < n) : w.cell? ⟨B, 4, none⟩ = Option.some (.int .i64 (f 2)) := (h.k hi).1
theorem Pts.y2 {w : World} {B n c : Nat} {f g : Nat → Int} (h : Pts w (Option.some ⟨B, 0, none⟩) n c f g) (hi : 2 < n) : w.cell? ⟨B, 5, none⟩ = Option.some (.int .i64 (g 2)) := (h.k hi).2
theorem Pts.x3 {w : World} {B n c : Nat} {f g : Nat → Int} (h : Pts w (Option.some ⟨B, 0, none⟩) n c f g) (hi : 3 < n) : w.cell? ⟨B, 6, none⟩ = Option.some (.int .i64 (f 3)) := (h.k hi).1
theorem Pts.y3 {w : World} {B n c : Nat} {f g : Nat → Int} (h : Pts w (Option.some ⟨B, 0, none⟩) n c f g) (hi : 3 < n) : w.cell? ⟨B, 7, none⟩ = Option.some (.int .i64 (g 3)) := (h.k hi).2
set_option maxHeartbeats 4000000 in
set_option maxRecDepth 100000 in
theorem engine_op1 (op v p : Int) (RA GA Q : Option Addr) (rn rc gn gc qn qc pb c : Nat) (f g : Nat → Int) (w : World) (hT : TabM w) (hp : Pts w (some ⟨pb, 0, none⟩) 3 c f g) :
    Calls Tryz.prog 142 #[.pointer none, .agg #[.int .i64 op, .int .i64 v, .slice RA rn rc, .int .i64 p, .slice GA gn gc, .slice (some ⟨pb, 0, none⟩) 3 c, .slice Q qn qc]] w fun e w' => e = .returned (.int .i64 (sg (det (f 0) (g 0) (f 1) (g 1) (f 2) (g 2)) + 1)) ∧ Below w.heap.size w w' := by
  have HB0 := Lib.hid (Below.refl w.heap.size w); have FT := Lib.hid hT; have FP := Lib.hid hp
  have HP3 := Lib.hid (show P3 (f 0) (g 0) (f 1) (g 1) (f 2) (g 2) from ⟨(hp.isi 0 (by decide)).1, (hp.isi 0 (by decide)).2, (hp.isi 1 (by decide)).1, (hp.isi 1 (by decide)).2, (hp.isi 2 (by decide)).1, (hp.isi 2 (by decide)).2⟩)
  have hr := sg_range (det (f 0) (g 0) (f 1) (g 1) (f 2) (g 2))
  have e1 : IntKind.i64.wrap (sg (det (f 0) (g 0) (f 1) (g 1) (f 2) (g 2)) + 1) = sg (det (f 0) (g 0) (f 1) (g 1) (f 2) (g 2)) + 1 := by rw [IntKind.wrap_i64]; omega
  have hcp := hp.cap; have hmx := hp.max; unfold maxLen at hmx
  have hci : (3 : Int) ≤ (c : Int) := by omega
  clear hT hp hr
  go_enter Tryz.func142, Tryz.ntmps142
  go_wp2_with fail
  have B : Below w.heap.size w (w.alloc (.cells #[.int .i64 op, .int .i64 v, .slice RA rn rc, .int .i64 p, .slice GA gn gc, .slice (some ⟨pb, 0, none⟩) 3 c, .slice Q qn qc] 99)) := (HB0.out.alloc HB0.out.size _)
  have C : Below w.heap.size w (w.alloc (.cells #[.int .i64 op, .int .i64 v, .slice RA rn rc, .int .i64 p, .slice GA gn gc, .slice (some ⟨pb, 0, none⟩) 3 c, .slice Q qn qc] 99)) := ((Below.refl w.heap.size w).alloc (Nat.le_refl _) _)
  have X0 : Bx (w.alloc (.cells #[.int .i64 op, .int .i64 v, .slice RA rn rc, .int .i64 p, .slice GA gn gc, .slice (some ⟨pb, 0, none⟩) 3 c, .slice Q qn qc] 99)) (w.heap.size) #[.int .i64 op, .int .i64 v, .slice RA rn rc, .int .i64 p, .slice GA gn gc, .slice (some ⟨pb, 0, none⟩) 3 c, .slice Q qn qc] 99 := by simpa using (Bx.new w #[.int .i64 op, .int .i64 v, .slice RA rn rc, .int .i64 p, .slice GA gn gc, .slice (some ⟨pb, 0, none⟩) 3 c, .slice Q qn qc] 99)
  have FT_1 := Lib.hid (FT.out.below C (Nat.le_refl _))
  have FP_1 := Lib.hid (FP.out.below C (Nat.le_refl _))
  have HB1 := Lib.hid B
  have FR_1 := Lib.hid X0
  clear B C X0 HB0 FT FP
  generalize (w.alloc (.cells #[.int .i64 op, .int .i64 v, .slice RA rn rc, .int .i64 p, .slice GA gn gc, .slice (some ⟨pb, 0, none⟩) 3 c, .slice Q qn qc] 99)) = w1 at *
  have RB1 := Lib.hid (below_drew0 w1)
  have QF1 := Lib.hid (show ∀ w', Below w1.heap.size w1 w' → w'.cell? ⟨w.heap.size, 5, none⟩ = some (.slice (some ⟨pb, 0, none⟩) 3 c) ∧ w'.cell? ⟨pb, 0, none⟩ = some (.int .i64 (f 0)) ∧ w'.cell? ⟨pb, 1, none⟩ = some (.int .i64 (g 0)) ∧ w'.cell? ⟨pb, 2, none⟩ = some (.int .i64 (f 1)) ∧ w'.cell? ⟨pb, 3, none⟩ = some (.int .i64 (g 1)) ∧ w'.cell? ⟨pb, 4, none⟩ = some (.int .i64 (f 2)) ∧ w'.cell? ⟨pb, 5, none⟩ = some (.int .i64 (g 2)) from fun w' hb => ⟨(FR_1.out.below hb (Nat.le_refl _)).cell 5 (v := .slice (some ⟨pb, 0, none⟩) 3 c) rfl, (FP_1.out.below hb (Nat.le_refl _)).x0 (by decide), (FP_1.out.below hb (Nat.le_refl _)).y0 (by decide), (FP_1.out.below hb (Nat.le_refl _)).x1 (by decide), (FP_1.out.below hb (Nat.le_refl _)).y1 (by decide), (FP_1.out.below hb (Nat.le_refl _)).x2 (by decide), (FP_1.out.below hb (Nat.le_refl _)).y2 (by decide)⟩)
  refine wp_region_held_drew (S := fun w' => w'.cell? ⟨w.heap.size, 5, none⟩ = some (.slice (some ⟨pb, 0, none⟩) 3 c) ∧ w'.cell? ⟨pb, 0, none⟩ = some (.int .i64 (f 0)) ∧ w'.cell? ⟨pb, 1, none⟩ = some (.int .i64 (g 0)) ∧ w'.cell? ⟨pb, 2, none⟩ = some (.int .i64 (f 1)) ∧ w'.cell? ⟨pb, 3, none⟩ = some (.int .i64 (g 1)) ∧ w'.cell? ⟨pb, 4, none⟩ = some (.int .i64 (f 2)) ∧ w'.cell? ⟨pb, 5, none⟩ = some (.int .i64 (g 2))) (by kernel_rfl) (QF1.out _ RB1.out) (fun hHeld => ?_)
  refine wpAnyH_take (i := 0) (v := ?_) (by simp only [List.getElem?_toArray, List.getElem?_cons_succ, List.getElem?_cons_zero]; rfl) (by kernel_rfl) (by kernel_rfl) (by kernel_rfl) (by intro _ _ _ h; exact h) (Or.inl ⟨by rfl, ?_⟩) hHeld ?_
  rotate_left 1
  · intro w hSw; (try dsimp only at hSw); go_simp; try with_reducible rfl
  try simp only [Act.put, List.setIfInBounds_toArray, List.set_cons_zero, List.set_cons_succ]
  refine wpAnyH_take (i := 1) (v := ?_) (by simp only [List.getElem?_toArray, List.getElem?_cons_succ, List.getElem?_cons_zero]; rfl) (by kernel_rfl) (by kernel_rfl) (by kernel_rfl) (by intro _ _ _ h; exact h) (Or.inl ⟨by rfl, ?_⟩) hHeld ?_
  rotate_left 1
  · intro w hSw; (try dsimp only at hSw); go_simp; try with_reducible rfl
  try simp only [Act.put, List.setIfInBounds_toArray, List.set_cons_zero, List.set_cons_succ]
  refine wpAnyH_take (i := 2) (v := ?_) (by simp only [List.getElem?_toArray, List.getElem?_cons_succ, List.getElem?_cons_zero]; rfl) (by kernel_rfl) (by kernel_rfl) (by kernel_rfl) (by intro _ _ _ h; exact h) (Or.inl ⟨by rfl, ?_⟩) hHeld ?_
  rotate_left 1
  · intro w hSw; (try dsimp only at hSw); go_simp; try with_reducible rfl
  try simp only [Act.put, List.setIfInBounds_toArray, List.set_cons_zero, List.set_cons_succ]
  refine wpAnyH_take (i := 3) (v := ?_) (by simp only [List.getElem?_toArray, List.getElem?_cons_succ, List.getElem?_cons_zero]; rfl) (by kernel_rfl) (by kernel_rfl) (by kernel_rfl) (by intro _ _ _ h; exact h) (Or.inl ⟨by rfl, ?_⟩) hHeld ?_
  rotate_left 1
  · intro w hSw; (try dsimp only at hSw); go_simp; try with_reducible rfl
  try simp only [Act.put, List.setIfInBounds_toArray, List.set_cons_zero, List.set_cons_succ]
  refine wpAnyH_take (i := 4) (v := ?_) (by simp only [List.getElem?_toArray, List.getElem?_cons_succ, List.getElem?_cons_zero]; rfl) (by kernel_rfl) (by kernel_rfl) (by kernel_rfl) (by intro _ _ _ h; exact h) (Or.inl ⟨by rfl, ?_⟩) hHeld ?_
  rotate_left 1
  · intro w hSw; (try dsimp only at hSw); go_simp; try with_reducible rfl
  try simp only [Act.put, List.setIfInBounds_toArray, List.set_cons_zero, List.set_cons_succ]
  refine wpAnyH_take (i := 5) (v := ?_) (by simp only [List.getElem?_toArray, List.getElem?_cons_succ, List.getElem?_cons_zero]; rfl) (by kernel_rfl) (by kernel_rfl) (by kernel_rfl) (by intro _ _ _ h; exact h) (Or.inl ⟨by rfl, ?_⟩) hHeld ?_
  rotate_left 1
  · intro w hSw; (try dsimp only at hSw); go_simp; try with_reducible rfl
  try simp only [Act.put, List.setIfInBounds_toArray, List.set_cons_zero, List.set_cons_succ]
  refine wpAnyH_take (i := 6) (v := ?_) (by simp only [List.getElem?_toArray, List.getElem?_cons_succ, List.getElem?_cons_zero]; rfl) (by kernel_rfl) (by kernel_rfl) (by kernel_rfl) (by intro _ _ _ h; exact h) (Or.inl ⟨by rfl, ?_⟩) hHeld ?_
  rotate_left 1
  · intro w hSw; (try dsimp only at hSw); go_simp; try with_reducible rfl
  try simp only [Act.put, List.setIfInBounds_toArray, List.set_cons_zero, List.set_cons_succ]
  refine wpAnyH_take (i := 7) (v := ?_) (by simp only [List.getElem?_toArray, List.getElem?_cons_succ, List.getElem?_cons_zero]; rfl) (by kernel_rfl) (by kernel_rfl) (by kernel_rfl) (by intro _ _ _ h; exact h) (Or.inl ⟨by rfl, ?_⟩) hHeld ?_
  rotate_left 1
  · intro w hSw; (try dsimp only at hSw); go_simp; try with_reducible rfl
  try simp only [Act.put, List.setIfInBounds_toArray, List.set_cons_zero, List.set_cons_succ]
  refine wpAnyH_take (i := 8) (v := ?_) (by simp only [List.getElem?_toArray, List.getElem?_cons_succ, List.getElem?_cons_zero]; rfl) (by kernel_rfl) (by kernel_rfl) (by kernel_rfl) (by intro _ _ _ h; exact h) (Or.inl ⟨by rfl, ?_⟩) hHeld ?_
  rotate_left 1
  · intro w hSw; (try dsimp only at hSw); go_simp; try with_reducible rfl
  try simp only [Act.put, List.setIfInBounds_toArray, List.set_cons_zero, List.set_cons_succ]
  refine wpAnyH_take (i := 9) (v := ?_) (by simp only [List.getElem?_toArray, List.getElem?_cons_succ, List.getElem?_cons_zero]; rfl) (by kernel_rfl) (by kernel_rfl) (by kernel_rfl) (by intro _ _ _ h; exact h) (Or.inl ⟨by rfl, ?_⟩) hHeld ?_
  rotate_left 1
  · intro w hSw; (try dsimp only at hSw); go_simp; try with_reducible rfl
  try simp only [Act.put, List.setIfInBounds_toArray, List.set_cons_zero, List.set_cons_succ]
  refine wpAnyH_take (i := 10) (v := ?_) (by simp only [List.getElem?_toArray, List.getElem?_cons_succ, List.getElem?_cons_zero]; rfl) (by kernel_rfl) (by kernel_rfl) (by kernel_rfl) (by intro _ _ _ h; exact h) (Or.inl ⟨by rfl, ?_⟩) hHeld ?_
  rotate_left 1
  · intro w hSw; (try dsimp only at hSw); go_simp; try with_reducible rfl
  try simp only [Act.put, List.setIfInBounds_toArray, List.set_cons_zero, List.set_cons_succ]
  refine wpAnyH_take (i := 11) (v := ?_) (by simp only [List.getElem?_toArray, List.getElem?_cons_succ, List.getElem?_cons_zero]; rfl) (by kernel_rfl) (by kernel_rfl) (by kernel_rfl) (by intro _ _ _ h; exact h) (Or.inl ⟨by rfl, ?_⟩) hHeld ?_
  rotate_left 1
  · intro w hSw; (try dsimp only at hSw); go_simp; try with_reducible rfl
  try simp only [Act.put, List.setIfInBounds_toArray, List.set_cons_zero, List.set_cons_succ]
  refine wpAnyH_ready (rs := [12]) (by kernel_rfl) (by simp) ?_
  refine AllReadyH.cons (by simp only [List.getElem?_toArray, List.getElem?_cons_succ, List.getElem?_cons_zero]; rfl) (fun K hK => ?_) AllReadyH.nil
  go_simp
  refine (orient_Sign _ _ _ _ _ _ HP3.out _ (FT_1.out.below RB1.out (Nat.le_refl _))).mono ?_
  rintro e w2 ⟨rfl, B⟩
  have RB2 := Lib.hid (RB1.out.trans (B.mono RB1.out.size))
  clear B 
  go_wp2_with fail
  refine hK.out _ _ (QF1.out _ RB2.out) (fun hHeld2 => ?_)
  clear hK K hHeld; have hHeld := hHeld2; clear hHeld2
  try simp only [Act.put, List.setIfInBounds_toArray, List.set_cons_zero, List.set_cons_succ]
  refine wpAnyH_take (i := 13) (v := ?_) (by simp only [List.getElem?_toArray, List.getElem?_cons_succ, List.getElem?_cons_zero]; rfl) (by kernel_rfl) (by kernel_rfl) (by kernel_rfl) (by intro _ _ _ h; exact h) (Or.inl ⟨by rfl, ?_⟩) hHeld ?_
  rotate_left 1
  · intro w hSw; (try dsimp only at hSw); go_simp; try with_reducible rfl
  try simp only [Act.put, List.setIfInBounds_toArray, List.set_cons_zero, List.set_cons_succ]
  refine wpAnyH_take (i := 14) (v := ?_) (by simp only [List.getElem?_toArray, List.getElem?_cons_succ, List.getElem?_cons_zero]; rfl) (by kernel_rfl) (by kernel_rfl) (by kernel_rfl) (by intro _ _ _ h; exact h) (Or.inl ⟨by rfl, ?_⟩) hHeld ?_
  rotate_left 1
  · intro w hSw; (try dsimp only at hSw); go_simp; try with_reducible rfl
  try simp only [Act.put, List.setIfInBounds_toArray, List.set_cons_zero, List.set_cons_succ]
  refine wpAnyH_done (by kernel_rfl) ?_ _
  have FT_2 := Lib.hid (FT_1.out.below RB2.out (Nat.le_refl _))
  have FP_2 := Lib.hid (FP_1.out.below RB2.out (Nat.le_refl _))
  have FR_2 := Lib.hid (FR_1.out.below RB2.out (Nat.le_refl _))
  have HB2 := Lib.hid (HB1.out.trans (RB2.out.mono HB1.out.size))
  clear hHeld HB1 FT_1 FP_1 FR_1
  go_wp2_with fail
  go_ret
  exact ⟨rfl, HB2.out⟩
end Go.Proofs.YtjdiilkljgljkaaGreatDoor
namespace Go.Proofs.YtjdiilkljgljkaaGreatDoor
set_option linter.unusedVariables false
set_option linter.unusedSimpArgs false
open Go.RowKit Wd

set_option maxHeartbeats 4000000 in
set_option maxRecDepth 100000 in
theorem engine_Answer1 (Q : Option Addr) (qc pb c : Nat) (f g : Nat → Int) (w : World) (hT : TabM w) (hp : Pts w (some ⟨pb, 0, none⟩) 3 c f g) :
    Calls Tryz.prog 87 #[.pointer none, .agg #[.int .i64 1, .int .i64 0, .slice none 0 0, .int .i64 0, .slice none 0 0, .slice (some ⟨pb, 0, none⟩) 3 c, .slice Q 0 qc]] w fun e w' => e = .returned (.tuple #[.agg #[.int .i64 (sg (det (f 0) (g 0) (f 1) (g 1) (f 2) (g 2)) + 1), .int .i64 0, .slice none 0 0], .int .i64 0]) ∧ Below w.heap.size w w' := by
  have HB0 := Lib.hid (Below.refl w.heap.size w); have FT := Lib.hid hT; have FP := Lib.hid hp; clear hT hp
  go_enter Tryz.func87, Tryz.ntmps87
  go_wp2_with fail
  have B : Below w.heap.size w ((w.alloc (.cells #[.int .i64 1, .int .i64 0, .slice none 0 0, .int .i64 0, .slice none 0 0, .slice (some ⟨pb, 0, none⟩) 3 c, .slice Q 0 qc] 99)).alloc (.cells #[.int .i64 0, .int .i64 0, .slice none 0 0] 102)) := ((HB0.out.alloc HB0.out.size _).alloc (HB0.out.alloc HB0.out.size _).size _)
  have C : Below w.heap.size w ((w.alloc (.cells #[.int .i64 1, .int .i64 0, .slice none 0 0, .int .i64 0, .slice none 0 0, .slice (some ⟨pb, 0, none⟩) 3 c, .slice Q 0 qc] 99)).alloc (.cells #[.int .i64 0, .int .i64 0, .slice none 0 0] 102)) := (((Below.refl w.heap.size w).alloc (Nat.le_refl _) _).alloc (by simp; try omega) _)
  have X0 : Bx ((w.alloc (.cells #[.int .i64 1, .int .i64 0, .slice none 0 0, .int .i64 0, .slice none 0 0, .slice (some ⟨pb, 0, none⟩) 3 c, .slice Q 0 qc] 99)).alloc (.cells #[.int .i64 0, .int .i64 0, .slice none 0 0] 102)) (w.heap.size) #[.int .i64 1, .int .i64 0, .slice none 0 0, .int .i64 0, .slice none 0 0, .slice (some ⟨pb, 0, none⟩) 3 c, .slice Q 0 qc] 99 := by simpa using ((Bx.new w #[.int .i64 1, .int .i64 0, .slice none 0 0, .int .i64 0, .slice none 0 0, .slice (some ⟨pb, 0, none⟩) 3 c, .slice Q 0 qc] 99).alloc _)
  have X1 : Bx ((w.alloc (.cells #[.int .i64 1, .int .i64 0, .slice none 0 0, .int .i64 0, .slice none 0 0, .slice (some ⟨pb, 0, none⟩) 3 c, .slice Q 0 qc] 99)).alloc (.cells #[.int .i64 0, .int .i64 0, .slice none 0 0] 102)) (w.heap.size + 1) #[.int .i64 0, .int .i64 0, .slice none 0 0] 102 := by simpa using (Bx.new (w.alloc (.cells #[.int .i64 1, .int .i64 0, .slice none 0 0, .int .i64 0, .slice none 0 0, .slice (some ⟨pb, 0, none⟩) 3 c, .slice Q 0 qc] 99)) #[.int .i64 0, .int .i64 0, .slice none 0 0] 102)
  have FT_1 := Lib.hid (FT.out.below C (Nat.le_refl _))
  have FP_1 := Lib.hid (FP.out.below C (Nat.le_refl _))
  have HB1 := Lib.hid B
  have FR_1 := Lib.hid X0
  have FZ_1 := Lib.hid X1
  clear B C X0 X1 HB0 FT FP
  generalize ((w.alloc (.cells #[.int .i64 1, .int .i64 0, .slice none 0 0, .int .i64 0, .slice none 0 0, .slice (some ⟨pb, 0, none⟩) 3 c, .slice Q 0 qc] 99)).alloc (.cells #[.int .i64 0, .int .i64 0, .slice none 0 0] 102)) = w1 at *
  have vR0 := FR_1.out.cell 0 (v := .int .i64 1) rfl
  have vR1 := FR_1.out.cell 1 (v := .int .i64 0) rfl
  have vR2 := FR_1.out.cell 2 (v := .slice none 0 0) rfl
  have vR3 := FR_1.out.cell 3 (v := .int .i64 0) rfl
  have vR4 := FR_1.out.cell 4 (v := .slice none 0 0) rfl
  have vR5 := FR_1.out.cell 5 (v := .slice (some ⟨pb, 0, none⟩) 3 c) rfl
  have vR6 := FR_1.out.cell 6 (v := .slice Q 0 qc) rfl
  go_wp2_with fail
  refine (codec_Encode12 1 (by decide) (some ⟨pb, 0, none⟩) c f g Q qc _ FP_1.out).mono ?_
  rintro e w2 ⟨⟨v, rfl⟩, B⟩
  clear vR0 vR1 vR2 vR3 vR4 vR5 vR6
  have HB2 := Lib.hid (HB1.out.trans (B.mono HB1.out.size))
  have FT_2 := Lib.hid (FT_1.out.below B (Nat.le_refl _))
  have FP_2 := Lib.hid (FP_1.out.below B (Nat.le_refl _))
  have FR_2 := Lib.hid (FR_1.out.below B (Nat.le_refl _))
  have FZ_2 := Lib.hid (FZ_1.out.below B (Nat.le_refl _))
  clear B  HB1 FT_1 FP_1 FR_1 FZ_1
  go_wp2_with fail
  have RB2 := Lib.hid (below_drew0 w2)
  refine wp_region_held_drew (S := fun _ => True) (by kernel_rfl) trivial (fun _ => ?_)
  refine wpAnyH_gen [(⟨8, 9, 8, 180, #[.nilFunc], []⟩, fun cs w => cs = #[.func (.func 142) #[] #[]])] [⟨0, 20, fun x w => ∃ m : Nat, x = .map (some m) ∧ OpsM w m⟩, ⟨1, 21, fun z_ _ => z_ = .pointer (some ⟨w.heap.size, 0, none⟩)⟩, ⟨2, 22, fun z_ _ => z_ = .pointer (some ⟨w.heap.size, 0, none⟩)⟩, ⟨3, 23, fun z_ _ => z_ = .int .i64 1⟩, ⟨4, 24, fun z_ _ => z_ = .tuple #[.agg #[.func (.func 142) #[] #[]], .bool true]⟩, ⟨5, 19, fun z_ _ => z_ = .tuple #[.agg #[.func (.func 142) #[] #[]], .bool true]⟩, ⟨6, 25, fun z_ _ => z_ = .agg #[.func (.func 142) #[] #[]]⟩, ⟨7, 26, fun z_ _ => z_ = .bool true⟩, ⟨10, 9, fun z_ _ => z_ = .bool true⟩] (by kernel_rfl) (by kernel_rfl) (fun _ => trivial) ?_ ?_ ?_ ?_ ?_ ?_
  · refine ⟨?_, trivial⟩
    all_goals exact ⟨fun cs => by (dsimp only; repeat (first | exact Stay.const _ | exact Stay.sl _ _ _ _ | exact Stay.nm _ _ _ _ | exact Stay.bx _ _ _ _ | exact Stay.ops _ | refine Stay.ex fun _ => ?_ | refine Stay.and ?_ ?_)), by dsimp only; decide, by simp [NoU]⟩
  · refine ⟨?_, ?_, ?_, ?_, ?_, ?_, ?_, ?_, ?_, trivial⟩
    all_goals (intro x; (dsimp only; repeat (first | exact Stay.const _ | exact Stay.sl _ _ _ _ | exact Stay.nm _ _ _ _ | exact Stay.bx _ _ _ _ | exact Stay.ops _ | refine Stay.ex fun _ => ?_ | refine Stay.and ?_ ?_)))
  · refine ⟨?_, trivial⟩
    all_goals (intro a w K h; refine wpOp_step (by simp only [List.getElem?_toArray, List.getElem?_cons_succ, List.getElem?_cons_zero]; rfl) (fun K' hK => ?_); go_simp; exact hK _ _ h)
  · refine ⟨?_, trivial⟩
    · intro a w B K ht hd hs hb hK
      obtain ⟨x25, hx25, hp25⟩ := hd 6 _ rfl (by kernel_rfl)
      obtain rfl := hp25
      have es25 : a.tmps.getD 25 undef = _ := getD_of hx25; clear hx25
      clear ht hd
      have zc0 := hb.cell 0 (v := .nilFunc) rfl; have zf0 := hb.free 0
      have HK := Lib.hid (hK [.func (.func 142) #[] #[]] rfl (by simp [NoU]) rfl); clear hK hb
      simp only [ptrTo] at hs
      have esB : a.tmps.getD 8 undef = _ := getD_of hs; clear hs
      refine wpOp_step (by simp only [List.getElem?_toArray, List.getElem?_cons_succ, List.getElem?_cons_zero]; rfl) (fun K' hK' => ?_)
      go_simp
      exact hK' _ _ HK.out
  · refine ⟨?_, ?_, ?_, ?_, ?_, ?_, ?_, ?_, ?_, trivial⟩
    · intro a w K hb ht hd hK
      have hbw := Lib.hid (below_tr RB2.out hb); clear hb
      clear ht hd
      have HK := Lib.hid hK; clear hK
      refine wpOp_step (by simp only [List.getElem?_toArray, List.getElem?_cons_succ, List.getElem?_cons_zero]; rfl) (fun K' hK' => ?_)
      have HK' := Lib.hid hK'; clear hK'
      go_simp
      refine (engine_operations _).mono ?_
      rintro e w1 ⟨rfl, hm, B⟩
      go_wp2_with fail
      exact HK'.out _ _ (HK.out _ _ B ⟨_, rfl, hm⟩)
    · intro a w K hb ht hd hK
      have hbw := Lib.hid (below_tr RB2.out hb); clear hb
      have hx3 := (ht 3 rfl).trans rfl
      have es3 : a.tmps.getD 3 undef = _ := getD_of hx3; clear hx3
      clear ht hd
      have HK := Lib.hid hK; clear hK
      refine wpOp_step (by simp only [List.getElem?_toArray, List.getElem?_cons_succ, List.getElem?_cons_zero]; rfl) (fun K' hK' => ?_)
      have HK' := Lib.hid hK'; clear hK'
      go_simp
      exact HK'.out _ _ (HK.out _ _ below_rf rfl)
    · intro a w K hb ht hd hK
      have hbw := Lib.hid (below_tr RB2.out hb); clear hb
      obtain ⟨x21, hx21, hp21⟩ := hd 1 _ rfl (by kernel_rfl)
      obtain rfl := hp21
      have es21 : a.tmps.getD 21 undef = _ := getD_of hx21; clear hx21
      clear ht hd
      have HK := Lib.hid hK; clear hK
      refine wpOp_step (by simp only [List.getElem?_toArray, List.getElem?_cons_succ, List.getElem?_cons_zero]; rfl) (fun K' hK' => ?_)
      have HK' := Lib.hid hK'; clear hK'
      go_simp
      exact HK'.out _ _ (HK.out _ _ below_rf rfl)
    · intro a w K hb ht hd hK
      have hbw := Lib.hid (below_tr RB2.out hb); clear hb
      obtain ⟨x22, hx22, hp22⟩ := hd 2 _ rfl (by kernel_rfl)
      obtain rfl := hp22
      have es22 : a.tmps.getD 22 undef = _ := getD_of hx22; clear hx22
      clear ht hd
      have zc0 := (FR_2.out.below hbw.out (Nat.le_refl _)).cell 0 (v := .int .i64 1) rfl
      have HK := Lib.hid hK; clear hK
      refine wpOp_step (by simp only [List.getElem?_toArray, List.getElem?_cons_succ, List.getElem?_cons_zero]; rfl) (fun K' hK' => ?_)
      have HK' := Lib.hid hK'; clear hK'
      go_simp
      exact HK'.out _ _ (HK.out _ _ below_rf rfl)
    · intro a w K hb ht hd hK
      have hbw := Lib.hid (below_tr RB2.out hb); clear hb
      obtain ⟨x20, hx20, hp20⟩ := hd 0 _ rfl (by kernel_rfl)
      obtain ⟨mb20, rfl, S20⟩ := hp20
      have es20 : a.tmps.getD 20 undef = _ := getD_of hx20; clear hx20
      obtain ⟨x23, hx23, hp23⟩ := hd 3 _ rfl (by kernel_rfl)
      obtain rfl := hp23
      have es23 : a.tmps.getD 23 undef = _ := getD_of hx23; clear hx23
      clear ht hd
      have HK := Lib.hid hK; clear hK
      have hlk := run_lookup_at (P := Tryz.prog) Tryz.underlying182 Tryz.underlying3 w mb20 opE 4 1 (.agg #[.func (.func 142) #[] #[]]) 0 S20 rfl
      refine wpOp_step (by simp only [List.getElem?_toArray, List.getElem?_cons_succ, List.getElem?_cons_zero]; rfl) (fun K' hK' => ?_)
      have HK' := Lib.hid hK'; clear hK'
      go_simp
      exact HK'.out _ _ (HK.out _ _ below_rf rfl)
    · intro a w K hb ht hd hK
      have hbw := Lib.hid (below_tr RB2.out hb); clear hb
      obtain ⟨x24, hx24, hp24⟩ := hd 4 _ rfl (by kernel_rfl)
      obtain rfl := hp24
      have es24 : a.tmps.getD 24 undef = _ := getD_of hx24; clear hx24
      clear ht hd
      have HK := Lib.hid hK; clear hK
      refine wpOp_step (by simp only [List.getElem?_toArray, List.getElem?_cons_succ, List.getElem?_cons_zero]; rfl) (fun K' hK' => ?_)
      have HK' := Lib.hid hK'; clear hK'
      go_simp
      exact HK'.out _ _ (HK.out _ _ below_rf rfl)
    · intro a w K hb ht hd hK
      have hbw := Lib.hid (below_tr RB2.out hb); clear hb
      obtain ⟨x19, hx19, hp19⟩ := hd 5 _ rfl (by kernel_rfl)
      obtain rfl := hp19
      have es19 : a.tmps.getD 19 undef = _ := getD_of hx19; clear hx19
      clear ht hd
      have HK := Lib.hid hK; clear hK
      refine wpOp_step (by simp only [List.getElem?_toArray, List.getElem?_cons_succ, List.getElem?_cons_zero]; rfl) (fun K' hK' => ?_)
      have HK' := Lib.hid hK'; clear hK'
      go_simp
      exact HK'.out _ _ (HK.out _ _ below_rf rfl)
    · intro a w K hb ht hd hK
      have hbw := Lib.hid (below_tr RB2.out hb); clear hb
      obtain ⟨x19, hx19, hp19⟩ := hd 5 _ rfl (by kernel_rfl)
      obtain rfl := hp19
      have es19 : a.tmps.getD 19 undef = _ := getD_of hx19; clear hx19
      clear ht hd
      have HK := Lib.hid hK; clear hK
      refine wpOp_step (by simp only [List.getElem?_toArray, List.getElem?_cons_succ, List.getElem?_cons_zero]; rfl) (fun K' hK' => ?_)
      have HK' := Lib.hid hK'; clear hK'
      go_simp
      exact HK'.out _ _ (HK.out _ _ below_rf rfl)
    · intro a w K hb ht hd hK
      have hbw := Lib.hid (below_tr RB2.out hb); clear hb
      obtain ⟨x26, hx26, hp26⟩ := hd 7 _ rfl (by kernel_rfl)
      obtain rfl := hp26
      have es26 : a.tmps.getD 26 undef = _ := getD_of hx26; clear hx26
      clear ht hd
      have HK := Lib.hid hK; clear hK
      refine wpOp_step (by simp only [List.getElem?_toArray, List.getElem?_cons_succ, List.getElem?_cons_zero]; rfl) (fun K' hK' => ?_)
      have HK' := Lib.hid hK'; clear hK'
      go_simp
      exact HK'.out _ _ (HK.out _ _ below_rf rfl)
  · intro w3 X B hb hv hx hd
    simp only [List.foldl_cons, List.foldl_nil, Act.put, List.setIfInBounds_toArray, List.set_cons_zero, List.set_cons_succ, ptrTo]
    obtain ⟨hv0, hv1, hv2, hv3, hv4, hv5, hv6, hv7, hv10, -⟩ := hv
    obtain ⟨⟨hn8, cs8, hx8, hg8⟩, -⟩ := hx
    clear hd
    have hV0 : (fun x w => ∃ m : Nat, x = .map (some m) ∧ OpsM w m) (X 20) w3 := hv0; clear hv0; have hv0 := hV0; clear hV0; generalize X 20 = X20 at *
    have hV1 : (fun z_ _ => z_ = .pointer (some ⟨w.heap.size, 0, none⟩)) (X 21) w3 := hv1; clear hv1; have hv1 := hV1; clear hV1; generalize X 21 = X21 at *
    have hV2 : (fun z_ _ => z_ = .pointer (some ⟨w.heap.size, 0, none⟩)) (X 22) w3 := hv2; clear hv2; have hv2 := hV2; clear hV2; generalize X 22 = X22 at *
    have hV3 : (fun z_ _ => z_ = .int .i64 1) (X 23) w3 := hv3; clear hv3; have hv3 := hV3; clear hV3; generalize X 23 = X23 at *
    have hV4 : (fun z_ _ => z_ = .tuple #[.agg #[.func (.func 142) #[] #[]], .bool true]) (X 24) w3 := hv4; clear hv4; have hv4 := hV4; clear hV4; generalize X 24 = X24 at *
    have hV5 : (fun z_ _ => z_ = .tuple #[.agg #[.func (.func 142) #[] #[]], .bool true]) (X 19) w3 := hv5; clear hv5; have hv5 := hV5; clear hV5; generalize X 19 = X19 at *
    have hV6 : (fun z_ _ => z_ = .agg #[.func (.func 142) #[] #[]]) (X 25) w3 := hv6; clear hv6; have hv6 := hV6; clear hV6; generalize X 25 = X25 at *
    have hV7 : (fun z_ _ => z_ = .bool true) (X 26) w3 := hv7; clear hv7; have hv7 := hV7; clear hV7; generalize X 26 = X26 at *
    have hV10 : (fun z_ _ => z_ = .bool true) (X 9) w3 := hv10; clear hv10; have hv10 := hV10; clear hV10; generalize X 9 = X9 at *
    have hx8' : Bx w3 (B 8) cs8 180 := hx8; clear hx8; generalize B 8 = b8 at *
    have hn8' : w2.heap.size ≤ b8 := hn8; clear hn8
    clear hv0
    obtain rfl := hv1
    obtain rfl := hv2
    obtain rfl := hv3
    obtain rfl := hv4
    obtain rfl := hv5
    obtain rfl := hv6
    obtain rfl := hv7
    obtain rfl := hv10
    obtain rfl := hg8
    have RC := Lib.hid (below_tr RB2.out hb); clear hb
    have FT_3 := Lib.hid (FT_2.out.below RC.out (Nat.le_refl _))
    have FP_3 := Lib.hid (FP_2.out.below RC.out (Nat.le_refl _))
    have FR_3 := Lib.hid (FR_2.out.below RC.out (Nat.le_refl _))
    have FZ_3 := Lib.hid (FZ_2.out.below RC.out (Nat.le_refl _))
    have HB3 := Lib.hid (HB2.out.trans (RC.out.mono HB2.out.size))
    clear HB2 FT_2 FP_2 FR_2 FZ_2 RC RB2
    have FO := Lib.hid hx8'; clear hx8'
    have k0 := FO.out.cell 0 (v := .func (.func 142) #[] #[]) rfl
    have vR0 := FR_3.out.cell 0 (v := .int .i64 1) rfl
    have vR1 := FR_3.out.cell 1 (v := .int .i64 0) rfl
    have vR2 := FR_3.out.cell 2 (v := .slice none 0 0) rfl
    have vR3 := FR_3.out.cell 3 (v := .int .i64 0) rfl
    have vR4 := FR_3.out.cell 4 (v := .slice none 0 0) rfl
    have vR5 := FR_3.out.cell 5 (v := .slice (some ⟨pb, 0, none⟩) 3 c) rfl
    have vR6 := FR_3.out.cell 6 (v := .slice Q 0 qc) rfl
    go_wp2_with fail
    refine (engine_op1 _ _ _ _ _ _ _ _ _ _ _ _ _ _ f g _ FT_3.out FP_3.out).mono ?_
    rintro e w4 ⟨rfl, B⟩
    clear vR0 vR1 vR2 vR3 vR4 vR5 vR6
    have HB4 := Lib.hid (HB3.out.trans (B.mono HB3.out.size))
    have FT_4 := Lib.hid (FT_3.out.below B (Nat.le_refl _))
    have FP_4 := Lib.hid (FP_3.out.below B (Nat.le_refl _))
    have FR_4 := Lib.hid (FR_3.out.below B (Nat.le_refl _))
    have FZ_4 := Lib.hid (FZ_3.out.below B (Nat.le_refl _))
    have FO_4 := Lib.hid (FO.out.below B (Nat.le_refl _))
    clear B  HB3 FT_3 FP_3 FR_3 FZ_3 FO
    clear k0
    have z0 := FZ_4.out.cell 0 (v := .int .i64 0) rfl; have z1 := FZ_4.out.cell 1 (v := .int .i64 0) rfl; have z2 := FZ_4.out.cell 2 (v := .slice none 0 0) rfl; have y0 := FZ_4.out.free 0; have y1 := FZ_4.out.free 1; have y2 := FZ_4.out.free 2
    go_wp2_with fail
    clear z0 z1 z2 y0 y1 y2
    have HZ := Lib.hid (((FZ_4.out.set 0 (.int .i64 (sg (det (f 0) (g 0) (f 1) (g 1) (f 2) (g 2)) + 1))).set 1 (.int .i64 0)).set 2 (.slice none 0 0))
    have HBE := Lib.hid (((HB4.out.setCell (p := ⟨w.heap.size + 1, 0, none⟩) (by show w.heap.size ≤ w.heap.size + 1; omega) (.int .i64 (sg (det (f 0) (g 0) (f 1) (g 1) (f 2) (g 2)) + 1))).setCell (p := ⟨w.heap.size + 1, 1, none⟩) (by show w.heap.size ≤ w.heap.size + 1; omega) (.int .i64 0)).setCell (p := ⟨w.heap.size + 1, 2, none⟩) (by show w.heap.size ≤ w.heap.size + 1; omega) (.slice none 0 0))
    generalize (((w4.setCell ⟨w.heap.size + 1, 0, none⟩ (.int .i64 (sg (det (f 0) (g 0) (f 1) (g 1) (f 2) (g 2)) + 1))).setCell ⟨w.heap.size + 1, 1, none⟩ (.int .i64 0)).setCell ⟨w.heap.size + 1, 2, none⟩ (.slice none 0 0)) = wz at *
    have q0 := HZ.out.cell 0 (v := .int .i64 (sg (det (f 0) (g 0) (f 1) (g 1) (f 2) (g 2)) + 1)) rfl
    have q1 := HZ.out.cell 1 (v := .int .i64 0) rfl
    have q2 := HZ.out.cell 2 (v := .slice none 0 0) rfl
    refine bodyPost_ret (v := .tuple #[.agg #[.int .i64 (sg (det (f 0) (g 0) (f 1) (g 1) (f 2) (g 2)) + 1), .int .i64 0, .slice none 0 0], .int .i64 0]) (by simp [results, Tryz.results87, go_sem, q0, q1, q2]) rfl ⟨rfl, HBE.out⟩
end Go.Proofs.YtjdiilkljgljkaaGreatDoor
namespace Go.Proofs.YtjdiilkljgljkaaGreatDoor
set_option linter.unusedVariables false
set_option linter.unusedSimpArgs false
open Go.RowKit Wd

set_option maxHeartbeats 4000000 in
set_option maxRecDepth 100000 in
theorem codec_isAnswer12 (op : Int) (ho : op = 1 ∨ op = 2) (x : Int) (hx : x = 0 ∨ x = 1 ∨ x = 2) (w : World) :
    Calls Tryz.prog 89 #[.agg #[.int .i64 op, .int .i64 0, .slice none 0 0, .int .i64 0], .agg #[.int .i64 x, .int .i64 0, .slice none 0 0]] w fun e w' => e = .returned (.bool true) ∧ Below w.heap.size w w' := by
  rcases ho with rfl | rfl <;> rcases hx with rfl | rfl | rfl
  · go_enter Tryz.func89, Tryz.ntmps89
    go_wp2_with fail
    refine wp_loop_rounds 1 ?_
    rw [rounds_succ]
    go_wp2_with fail
    go_ret
    exact ⟨rfl, by repeat (first | exact below_rf | refine below_al ?_)⟩
  · go_enter Tryz.func89, Tryz.ntmps89
    go_wp2_with fail
    refine wp_loop_rounds 1 ?_
    rw [rounds_succ]
    go_wp2_with fail
    go_ret
    exact ⟨rfl, by repeat (first | exact below_rf | refine below_al ?_)⟩
  · go_enter Tryz.func89, Tryz.ntmps89
    go_wp2_with fail
    refine wp_loop_rounds 1 ?_
    rw [rounds_succ]
    go_wp2_with fail
    go_ret
    exact ⟨rfl, by repeat (first | exact below_rf | refine below_al ?_)⟩
  · go_enter Tryz.func89, Tryz.ntmps89
    go_wp2_with fail
    refine wp_loop_rounds 1 ?_
    rw [rounds_succ]
    go_wp2_with fail
    go_ret
    exact ⟨rfl, by repeat (first | exact below_rf | refine below_al ?_)⟩
  · go_enter Tryz.func89, Tryz.ntmps89
    go_wp2_with fail
    refine wp_loop_rounds 1 ?_
    rw [rounds_succ]
    go_wp2_with fail
    go_ret
    exact ⟨rfl, by repeat (first | exact below_rf | refine below_al ?_)⟩
  · go_enter Tryz.func89, Tryz.ntmps89
    go_wp2_with fail
    refine wp_loop_rounds 1 ?_
    rw [rounds_succ]
    go_wp2_with fail
    go_ret
    exact ⟨rfl, by repeat (first | exact below_rf | refine below_al ?_)⟩
set_option maxHeartbeats 4000000 in
set_option maxRecDepth 100000 in
theorem codec_Respond12 (op : Int) (ho : op = 1 ∨ op = 2) (x : Int) (hx : x = 0 ∨ x = 1 ∨ x = 2) (w : World) :
    Calls Tryz.prog 56 #[.agg #[.int .i64 op, .int .i64 0, .slice none 0 0, .int .i64 0], .agg #[.int .i64 x, .int .i64 0, .slice none 0 0]] w fun e w' => (∃ A c, e = .returned (.tuple #[.slice A 2 c, .int .i64 0]) ∧ By w' A c [0, x]) ∧ Below w.heap.size w w' := by
  rcases ho with rfl | rfl <;> rcases hx with rfl | rfl | rfl
  · go_enter Tryz.func56, Tryz.ntmps56
    go_wp2_with fail
    have HH := Lib.hid (show Bx ((w.alloc (.cells #[.int .i64 1, .int .i64 0, .slice none 0 0, .int .i64 0] 28)).alloc (.cells #[.int .i64 0, .int .i64 0, .slice none 0 0] 102)) w.heap.size #[.int .i64 1, .int .i64 0, .slice none 0 0, .int .i64 0] 28 from (Bx.new _ _ _).alloc _)
    have HA := Lib.hid (show Bx ((w.alloc (.cells #[.int .i64 1, .int .i64 0, .slice none 0 0, .int .i64 0] 28)).alloc (.cells #[.int .i64 0, .int .i64 0, .slice none 0 0] 102)) (w.heap.size + 1) #[.int .i64 0, .int .i64 0, .slice none 0 0] 102 from bx_new (by simp))
    have HB1 := Lib.hid (show Below w.heap.size w ((w.alloc (.cells #[.int .i64 1, .int .i64 0, .slice none 0 0, .int .i64 0] 28)).alloc (.cells #[.int .i64 0, .int .i64 0, .slice none 0 0] 102)) from below_al (below_al below_rf))
    generalize (w.alloc (.cells #[.int .i64 1, .int .i64 0, .slice none 0 0, .int .i64 0] 28)).alloc (.cells #[.int .i64 0, .int .i64 0, .slice none 0 0] 102) = w1 at *
    have c0 := HH.out.cell 0 (v := .int .i64 1) rfl
    have c1 := HH.out.cell 1 (v := .int .i64 0) rfl
    have c2 := HH.out.cell 2 (v := .slice none 0 0) rfl
    have c3 := HH.out.cell 3 (v := .int .i64 0) rfl
    go_wp2_with fail
    clear c0 c1 c2 c3
    refine (header_Format12 1 (by decide) _).mono ?_
    rintro e w2 ⟨⟨v, rfl, ho2⟩, B⟩
    obtain ⟨A', c', rfl⟩ := ho2.slice
    have HH2 := Lib.hid (HH.out.below B (Nat.le_refl _)); have HA2 := Lib.hid (HA.out.below B (Nat.le_refl _)); have HB2 := Lib.hid (HB1.out.trans (B.mono HB1.out.size)); clear B ho2 HH HA HB1
    have c0 := HH2.out.cell 0 (v := .int .i64 1) rfl
    have c1 := HH2.out.cell 1 (v := .int .i64 0) rfl
    have c2 := HH2.out.cell 2 (v := .slice none 0 0) rfl
    have c3 := HH2.out.cell 3 (v := .int .i64 0) rfl
    have a0 := HA2.out.cell 0 (v := .int .i64 0) rfl
    have a1 := HA2.out.cell 1 (v := .int .i64 0) rfl
    have a2 := HA2.out.cell 2 (v := .slice none 0 0) rfl
    go_wp2_with fail
    clear c0 c1 c2 c3 a0 a1 a2
    refine (codec_isAnswer12 1 (by decide) 0 (by decide) _).mono ?_
    rintro e w3 ⟨rfl, B⟩
    have HH3 := Lib.hid (HH2.out.below B (Nat.le_refl _)); have HA3 := Lib.hid (HA2.out.below B (Nat.le_refl _)); have HB3 := Lib.hid (HB2.out.trans (B.mono HB2.out.size)); clear B HH2 HA2 HB2
    have a0 := HA3.out.cell 0 (v := .int .i64 0) rfl
    have c0 := ((HH3.out.alloc (.cells #[.int .u8 0, .int .u8 0] 5)).alloc (.cells #[.slice (some ⟨w3.heap.size, 0, none⟩) 2 2] 142)).cell 0 (v := .int .i64 1) rfl
    have a2 := ((HA3.out.alloc (.cells #[.int .u8 0, .int .u8 0] 5)).alloc (.cells #[.slice (some ⟨w3.heap.size, 0, none⟩) 2 2] 142)).cell 2 (v := .slice none 0 0) rfl
    go_wp2_with fail
    refine (each_recs0 _ _ _ _).mono ?_
    rintro e w4 ⟨rfl, rfl⟩
    go_wp2_with fail
    go_ret2
    refine ⟨⟨_, _, rfl, ?_⟩, (HB3.out.alloc HB3.out.size _).alloc (by have := HB3.out.size; simp; omega) _⟩
    refine ⟨by decide, by decide, fun _ => ⟨w3.heap.size, 0, rfl, (by simp <;> omega), fun i x hi => ?_⟩⟩
    have HBX := ((Bx.new w3 #[.int .u8 0, .int .u8 0] 5).alloc (.cells #[.slice (some ⟨w3.heap.size, 0, none⟩) 2 2] 142))
    match i, hi with
    | 0, hi => simp at hi; subst hi; exact HBX.cell 0 rfl
    | 1, hi => simp at hi; subst hi; exact HBX.cell 1 rfl
    | i + 2, hi => simp at hi
  · go_enter Tryz.func56, Tryz.ntmps56
    go_wp2_with fail
    have HH := Lib.hid (show Bx ((w.alloc (.cells #[.int .i64 1, .int .i64 0, .slice none 0 0, .int .i64 0] 28)).alloc (.cells #[.int .i64 1, .int .i64 0, .slice none 0 0] 102)) w.heap.size #[.int .i64 1, .int .i64 0, .slice none 0 0, .int .i64 0] 28 from (Bx.new _ _ _).alloc _)
    have HA := Lib.hid (show Bx ((w.alloc (.cells #[.int .i64 1, .int .i64 0, .slice none 0 0, .int .i64 0] 28)).alloc (.cells #[.int .i64 1, .int .i64 0, .slice none 0 0] 102)) (w.heap.size + 1) #[.int .i64 1, .int .i64 0, .slice none 0 0] 102 from bx_new (by simp))
    have HB1 := Lib.hid (show Below w.heap.size w ((w.alloc (.cells #[.int .i64 1, .int .i64 0, .slice none 0 0, .int .i64 0] 28)).alloc (.cells #[.int .i64 1, .int .i64 0, .slice none 0 0] 102)) from below_al (below_al below_rf))
    generalize (w.alloc (.cells #[.int .i64 1, .int .i64 0, .slice none 0 0, .int .i64 0] 28)).alloc (.cells #[.int .i64 1, .int .i64 0, .slice none 0 0] 102) = w1 at *
    have c0 := HH.out.cell 0 (v := .int .i64 1) rfl
    have c1 := HH.out.cell 1 (v := .int .i64 0) rfl
    have c2 := HH.out.cell 2 (v := .slice none 0 0) rfl
    have c3 := HH.out.cell 3 (v := .int .i64 0) rfl
    go_wp2_with fail
    clear c0 c1 c2 c3
    refine (header_Format12 1 (by decide) _).mono ?_
    rintro e w2 ⟨⟨v, rfl, ho2⟩, B⟩
    obtain ⟨A', c', rfl⟩ := ho2.slice
    have HH2 := Lib.hid (HH.out.below B (Nat.le_refl _)); have HA2 := Lib.hid (HA.out.below B (Nat.le_refl _)); have HB2 := Lib.hid (HB1.out.trans (B.mono HB1.out.size)); clear B ho2 HH HA HB1
    have c0 := HH2.out.cell 0 (v := .int .i64 1) rfl
    have c1 := HH2.out.cell 1 (v := .int .i64 0) rfl
    have c2 := HH2.out.cell 2 (v := .slice none 0 0) rfl
    have c3 := HH2.out.cell 3 (v := .int .i64 0) rfl
    have a0 := HA2.out.cell 0 (v := .int .i64 1) rfl
    have a1 := HA2.out.cell 1 (v := .int .i64 0) rfl
    have a2 := HA2.out.cell 2 (v := .slice none 0 0) rfl
    go_wp2_with fail
    clear c0 c1 c2 c3 a0 a1 a2
    refine (codec_isAnswer12 1 (by decide) 1 (by decide) _).mono ?_
    rintro e w3 ⟨rfl, B⟩
    have HH3 := Lib.hid (HH2.out.below B (Nat.le_refl _)); have HA3 := Lib.hid (HA2.out.below B (Nat.le_refl _)); have HB3 := Lib.hid (HB2.out.trans (B.mono HB2.out.size)); clear B HH2 HA2 HB2
    have a0 := HA3.out.cell 0 (v := .int .i64 1) rfl
    have c0 := ((HH3.out.alloc (.cells #[.int .u8 0, .int .u8 1] 5)).alloc (.cells #[.slice (some ⟨w3.heap.size, 0, none⟩) 2 2] 142)).cell 0 (v := .int .i64 1) rfl
    have a2 := ((HA3.out.alloc (.cells #[.int .u8 0, .int .u8 1] 5)).alloc (.cells #[.slice (some ⟨w3.heap.size, 0, none⟩) 2 2] 142)).cell 2 (v := .slice none 0 0) rfl
    go_wp2_with fail
    refine (each_recs0 _ _ _ _).mono ?_
    rintro e w4 ⟨rfl, rfl⟩
    go_wp2_with fail
    go_ret2
    refine ⟨⟨_, _, rfl, ?_⟩, (HB3.out.alloc HB3.out.size _).alloc (by have := HB3.out.size; simp; omega) _⟩
    refine ⟨by decide, by decide, fun _ => ⟨w3.heap.size, 0, rfl, (by simp <;> omega), fun i x hi => ?_⟩⟩
    have HBX := ((Bx.new w3 #[.int .u8 0, .int .u8 1] 5).alloc (.cells #[.slice (some ⟨w3.heap.size, 0, none⟩) 2 2] 142))
    match i, hi with
    | 0, hi => simp at hi; subst hi; exact HBX.cell 0 rfl
    | 1, hi => simp at hi; subst hi; exact HBX.cell 1 rfl
    | i + 2, hi => simp at hi
  · go_enter Tryz.func56, Tryz.ntmps56
    go_wp2_with fail
    have HH := Lib.hid (show Bx ((w.alloc (.cells #[.int .i64 1, .int .i64 0, .slice none 0 0, .int .i64 0] 28)).alloc (.cells #[.int .i64 2, .int .i64 0, .slice none 0 0] 102)) w.heap.size #[.int .i64 1, .int .i64 0, .slice none 0 0, .int .i64 0] 28 from (Bx.new _ _ _).alloc _)
    have HA := Lib.hid (show Bx ((w.alloc (.cells #[.int .i64 1, .int .i64 0, .slice none 0 0, .int .i64 0] 28)).alloc (.cells #[.int .i64 2, .int .i64 0, .slice none 0 0] 102)) (w.heap.size + 1) #[.int .i64 2, .int .i64 0, .slice none 0 0] 102 from bx_new (by simp))
    have HB1 := Lib.hid (show Below w.heap.size w ((w.alloc (.cells #[.int .i64 1, .int .i64 0, .slice none 0 0, .int .i64 0] 28)).alloc (.cells #[.int .i64 2, .int .i64 0, .slice none 0 0] 102)) from below_al (below_al below_rf))
    generalize (w.alloc (.cells #[.int .i64 1, .int .i64 0, .slice none 0 0, .int .i64 0] 28)).alloc (.cells #[.int .i64 2, .int .i64 0, .slice none 0 0] 102) = w1 at *
    have c0 := HH.out.cell 0 (v := .int .i64 1) rfl
    have c1 := HH.out.cell 1 (v := .int .i64 0) rfl
    have c2 := HH.out.cell 2 (v := .slice none 0 0) rfl
    have c3 := HH.out.cell 3 (v := .int .i64 0) rfl
    go_wp2_with fail
    clear c0 c1 c2 c3
    refine (header_Format12 1 (by decide) _).mono ?_
    rintro e w2 ⟨⟨v, rfl, ho2⟩, B⟩
    obtain ⟨A', c', rfl⟩ := ho2.slice
    have HH2 := Lib.hid (HH.out.below B (Nat.le_refl _)); have HA2 := Lib.hid (HA.out.below B (Nat.le_refl _)); have HB2 := Lib.hid (HB1.out.trans (B.mono HB1.out.size)); clear B ho2 HH HA HB1
    have c0 := HH2.out.cell 0 (v := .int .i64 1) rfl
    have c1 := HH2.out.cell 1 (v := .int .i64 0) rfl
    have c2 := HH2.out.cell 2 (v := .slice none 0 0) rfl
    have c3 := HH2.out.cell 3 (v := .int .i64 0) rfl
    have a0 := HA2.out.cell 0 (v := .int .i64 2) rfl
    have a1 := HA2.out.cell 1 (v := .int .i64 0) rfl
    have a2 := HA2.out.cell 2 (v := .slice none 0 0) rfl
    go_wp2_with fail
    clear c0 c1 c2 c3 a0 a1 a2
    refine (codec_isAnswer12 1 (by decide) 2 (by decide) _).mono ?_
    rintro e w3 ⟨rfl, B⟩
    have HH3 := Lib.hid (HH2.out.below B (Nat.le_refl _)); have HA3 := Lib.hid (HA2.out.below B (Nat.le_refl _)); have HB3 := Lib.hid (HB2.out.trans (B.mono HB2.out.size)); clear B HH2 HA2 HB2
    have a0 := HA3.out.cell 0 (v := .int .i64 2) rfl
    have c0 := ((HH3.out.alloc (.cells #[.int .u8 0, .int .u8 2] 5)).alloc (.cells #[.slice (some ⟨w3.heap.size, 0, none⟩) 2 2] 142)).cell 0 (v := .int .i64 1) rfl
    have a2 := ((HA3.out.alloc (.cells #[.int .u8 0, .int .u8 2] 5)).alloc (.cells #[.slice (some ⟨w3.heap.size, 0, none⟩) 2 2] 142)).cell 2 (v := .slice none 0 0) rfl
    go_wp2_with fail
    refine (each_recs0 _ _ _ _).mono ?_
    rintro e w4 ⟨rfl, rfl⟩
    go_wp2_with fail
    go_ret2
    refine ⟨⟨_, _, rfl, ?_⟩, (HB3.out.alloc HB3.out.size _).alloc (by have := HB3.out.size; simp; omega) _⟩
    refine ⟨by decide, by decide, fun _ => ⟨w3.heap.size, 0, rfl, (by simp <;> omega), fun i x hi => ?_⟩⟩
    have HBX := ((Bx.new w3 #[.int .u8 0, .int .u8 2] 5).alloc (.cells #[.slice (some ⟨w3.heap.size, 0, none⟩) 2 2] 142))
    match i, hi with
    | 0, hi => simp at hi; subst hi; exact HBX.cell 0 rfl
    | 1, hi => simp at hi; subst hi; exact HBX.cell 1 rfl
    | i + 2, hi => simp at hi
  · go_enter Tryz.func56, Tryz.ntmps56
    go_wp2_with fail
    have HH := Lib.hid (show Bx ((w.alloc (.cells #[.int .i64 2, .int .i64 0, .slice none 0 0, .int .i64 0] 28)).alloc (.cells #[.int .i64 0, .int .i64 0, .slice none 0 0] 102)) w.heap.size #[.int .i64 2, .int .i64 0, .slice none 0 0, .int .i64 0] 28 from (Bx.new _ _ _).alloc _)
    have HA := Lib.hid (show Bx ((w.alloc (.cells #[.int .i64 2, .int .i64 0, .slice none 0 0, .int .i64 0] 28)).alloc (.cells #[.int .i64 0, .int .i64 0, .slice none 0 0] 102)) (w.heap.size + 1) #[.int .i64 0, .int .i64 0, .slice none 0 0] 102 from bx_new (by simp))
    have HB1 := Lib.hid (show Below w.heap.size w ((w.alloc (.cells #[.int .i64 2, .int .i64 0, .slice none 0 0, .int .i64 0] 28)).alloc (.cells #[.int .i64 0, .int .i64 0, .slice none 0 0] 102)) from below_al (below_al below_rf))
    generalize (w.alloc (.cells #[.int .i64 2, .int .i64 0, .slice none 0 0, .int .i64 0] 28)).alloc (.cells #[.int .i64 0, .int .i64 0, .slice none 0 0] 102) = w1 at *
    have c0 := HH.out.cell 0 (v := .int .i64 2) rfl
    have c1 := HH.out.cell 1 (v := .int .i64 0) rfl
    have c2 := HH.out.cell 2 (v := .slice none 0 0) rfl
    have c3 := HH.out.cell 3 (v := .int .i64 0) rfl
    go_wp2_with fail
    clear c0 c1 c2 c3
    refine (header_Format12 2 (by decide) _).mono ?_
    rintro e w2 ⟨⟨v, rfl, ho2⟩, B⟩
    obtain ⟨A', c', rfl⟩ := ho2.slice
    have HH2 := Lib.hid (HH.out.below B (Nat.le_refl _)); have HA2 := Lib.hid (HA.out.below B (Nat.le_refl _)); have HB2 := Lib.hid (HB1.out.trans (B.mono HB1.out.size)); clear B ho2 HH HA HB1
    have c0 := HH2.out.cell 0 (v := .int .i64 2) rfl
    have c1 := HH2.out.cell 1 (v := .int .i64 0) rfl
    have c2 := HH2.out.cell 2 (v := .slice none 0 0) rfl
    have c3 := HH2.out.cell 3 (v := .int .i64 0) rfl
    have a0 := HA2.out.cell 0 (v := .int .i64 0) rfl
    have a1 := HA2.out.cell 1 (v := .int .i64 0) rfl
    have a2 := HA2.out.cell 2 (v := .slice none 0 0) rfl
    go_wp2_with fail
    clear c0 c1 c2 c3 a0 a1 a2
    refine (codec_isAnswer12 2 (by decide) 0 (by decide) _).mono ?_
    rintro e w3 ⟨rfl, B⟩
    have HH3 := Lib.hid (HH2.out.below B (Nat.le_refl _)); have HA3 := Lib.hid (HA2.out.below B (Nat.le_refl _)); have HB3 := Lib.hid (HB2.out.trans (B.mono HB2.out.size)); clear B HH2 HA2 HB2
    have a0 := HA3.out.cell 0 (v := .int .i64 0) rfl
    have c0 := ((HH3.out.alloc (.cells #[.int .u8 0, .int .u8 0] 5)).alloc (.cells #[.slice (some ⟨w3.heap.size, 0, none⟩) 2 2] 142)).cell 0 (v := .int .i64 2) rfl
    have a2 := ((HA3.out.alloc (.cells #[.int .u8 0, .int .u8 0] 5)).alloc (.cells #[.slice (some ⟨w3.heap.size, 0, none⟩) 2 2] 142)).cell 2 (v := .slice none 0 0) rfl
    go_wp2_with fail
    refine (each_recs0 _ _ _ _).mono ?_
    rintro e w4 ⟨rfl, rfl⟩
    go_wp2_with fail
    go_ret2
    refine ⟨⟨_, _, rfl, ?_⟩, (HB3.out.alloc HB3.out.size _).alloc (by have := HB3.out.size; simp; omega) _⟩
    refine ⟨by decide, by decide, fun _ => ⟨w3.heap.size, 0, rfl, (by simp <;> omega), fun i x hi => ?_⟩⟩
    have HBX := ((Bx.new w3 #[.int .u8 0, .int .u8 0] 5).alloc (.cells #[.slice (some ⟨w3.heap.size, 0, none⟩) 2 2] 142))
    match i, hi with
    | 0, hi => simp at hi; subst hi; exact HBX.cell 0 rfl
    | 1, hi => simp at hi; subst hi; exact HBX.cell 1 rfl
    | i + 2, hi => simp at hi
  · go_enter Tryz.func56, Tryz.ntmps56
    go_wp2_with fail
    have HH := Lib.hid (show Bx ((w.alloc (.cells #[.int .i64 2, .int .i64 0, .slice none 0 0, .int .i64 0] 28)).alloc (.cells #[.int .i64 1, .int .i64 0, .slice none 0 0] 102)) w.heap.size #[.int .i64 2, .int .i64 0, .slice none 0 0, .int .i64 0] 28 from (Bx.new _ _ _).alloc _)
    have HA := Lib.hid (show Bx ((w.alloc (.cells #[.int .i64 2, .int .i64 0, .slice none 0 0, .int .i64 0] 28)).alloc (.cells #[.int .i64 1, .int .i64 0, .slice none 0 0] 102)) (w.heap.size + 1) #[.int .i64 1, .int .i64 0, .slice none 0 0] 102 from bx_new (by simp))
    have HB1 := Lib.hid (show Below w.heap.size w ((w.alloc (.cells #[.int .i64 2, .int .i64 0, .slice none 0 0, .int .i64 0] 28)).alloc (.cells #[.int .i64 1, .int .i64 0, .slice none 0 0] 102)) from below_al (below_al below_rf))
    generalize (w.alloc (.cells #[.int .i64 2, .int .i64 0, .slice none 0 0, .int .i64 0] 28)).alloc (.cells #[.int .i64 1, .int .i64 0, .slice none 0 0] 102) = w1 at *
    have c0 := HH.out.cell 0 (v := .int .i64 2) rfl
    have c1 := HH.out.cell 1 (v := .int .i64 0) rfl
    have c2 := HH.out.cell 2 (v := .slice none 0 0) rfl
    have c3 := HH.out.cell 3 (v := .int .i64 0) rfl
    go_wp2_with fail
    clear c0 c1 c2 c3
    refine (header_Format12 2 (by decide) _).mono ?_
    rintro e w2 ⟨⟨v, rfl, ho2⟩, B⟩
    obtain ⟨A', c', rfl⟩ := ho2.slice
    have HH2 := Lib.hid (HH.out.below B (Nat.le_refl _)); have HA2 := Lib.hid (HA.out.below B (Nat.le_refl _)); have HB2 := Lib.hid (HB1.out.trans (B.mono HB1.out.size)); clear B ho2 HH HA HB1
    have c0 := HH2.out.cell 0 (v := .int .i64 2) rfl
    have c1 := HH2.out.cell 1 (v := .int .i64 0) rfl
    have c2 := HH2.out.cell 2 (v := .slice none 0 0) rfl
    have c3 := HH2.out.cell 3 (v := .int .i64 0) rfl
    have a0 := HA2.out.cell 0 (v := .int .i64 1) rfl
    have a1 := HA2.out.cell 1 (v := .int .i64 0) rfl
    have a2 := HA2.out.cell 2 (v := .slice none 0 0) rfl
    go_wp2_with fail
    clear c0 c1 c2 c3 a0 a1 a2
    refine (codec_isAnswer12 2 (by decide) 1 (by decide) _).mono ?_
    rintro e w3 ⟨rfl, B⟩
    have HH3 := Lib.hid (HH2.out.below B (Nat.le_refl _)); have HA3 := Lib.hid (HA2.out.below B (Nat.le_refl _)); have HB3 := Lib.hid (HB2.out.trans (B.mono HB2.out.size)); clear B HH2 HA2 HB2
    have a0 := HA3.out.cell 0 (v := .int .i64 1) rfl
    have c0 := ((HH3.out.alloc (.cells #[.int .u8 0, .int .u8 1] 5)).alloc (.cells #[.slice (some ⟨w3.heap.size, 0, none⟩) 2 2] 142)).cell 0 (v := .int .i64 2) rfl
    have a2 := ((HA3.out.alloc (.cells #[.int .u8 0, .int .u8 1] 5)).alloc (.cells #[.slice (some ⟨w3.heap.size, 0, none⟩) 2 2] 142)).cell 2 (v := .slice none 0 0) rfl
    go_wp2_with fail
    refine (each_recs0 _ _ _ _).mono ?_
    rintro e w4 ⟨rfl, rfl⟩
    go_wp2_with fail
    go_ret2
    refine ⟨⟨_, _, rfl, ?_⟩, (HB3.out.alloc HB3.out.size _).alloc (by have := HB3.out.size; simp; omega) _⟩
    refine ⟨by decide, by decide, fun _ => ⟨w3.heap.size, 0, rfl, (by simp <;> omega), fun i x hi => ?_⟩⟩
    have HBX := ((Bx.new w3 #[.int .u8 0, .int .u8 1] 5).alloc (.cells #[.slice (some ⟨w3.heap.size, 0, none⟩) 2 2] 142))
    match i, hi with
    | 0, hi => simp at hi; subst hi; exact HBX.cell 0 rfl
    | 1, hi => simp at hi; subst hi; exact HBX.cell 1 rfl
    | i + 2, hi => simp at hi
  · go_enter Tryz.func56, Tryz.ntmps56
    go_wp2_with fail
    have HH := Lib.hid (show Bx ((w.alloc (.cells #[.int .i64 2, .int .i64 0, .slice none 0 0, .int .i64 0] 28)).alloc (.cells #[.int .i64 2, .int .i64 0, .slice none 0 0] 102)) w.heap.size #[.int .i64 2, .int .i64 0, .slice none 0 0, .int .i64 0] 28 from (Bx.new _ _ _).alloc _)
    have HA := Lib.hid (show Bx ((w.alloc (.cells #[.int .i64 2, .int .i64 0, .slice none 0 0, .int .i64 0] 28)).alloc (.cells #[.int .i64 2, .int .i64 0, .slice none 0 0] 102)) (w.heap.size + 1) #[.int .i64 2, .int .i64 0, .slice none 0 0] 102 from bx_new (by simp))
    have HB1 := Lib.hid (show Below w.heap.size w ((w.alloc (.cells #[.int .i64 2, .int .i64 0, .slice none 0 0, .int .i64 0] 28)).alloc (.cells #[.int .i64 2, .int .i64 0, .slice none 0 0] 102)) from below_al (below_al below_rf))
    generalize (w.alloc (.cells #[.int .i64 2, .int .i64 0, .slice none 0 0, .int .i64 0] 28)).alloc (.cells #[.int .i64 2, .int .i64 0, .slice none 0 0] 102) = w1 at *
    have c0 := HH.out.cell 0 (v := .int .i64 2) rfl
    have c1 := HH.out.cell 1 (v := .int .i64 0) rfl
    have c2 := HH.out.cell 2 (v := .slice none 0 0) rfl
    have c3 := HH.out.cell 3 (v := .int .i64 0) rfl
    go_wp2_with fail
    clear c0 c1 c2 c3
    refine (header_Format12 2 (by decide) _).mono ?_
    rintro e w2 ⟨⟨v, rfl, ho2⟩, B⟩
    obtain ⟨A', c', rfl⟩ := ho2.slice
    have HH2 := Lib.hid (HH.out.below B (Nat.le_refl _)); have HA2 := Lib.hid (HA.out.below B (Nat.le_refl _)); have HB2 := Lib.hid (HB1.out.trans (B.mono HB1.out.size)); clear B ho2 HH HA HB1
    have c0 := HH2.out.cell 0 (v := .int .i64 2) rfl
    have c1 := HH2.out.cell 1 (v := .int .i64 0) rfl
    have c2 := HH2.out.cell 2 (v := .slice none 0 0) rfl
    have c3 := HH2.out.cell 3 (v := .int .i64 0) rfl
    have a0 := HA2.out.cell 0 (v := .int .i64 2) rfl
    have a1 := HA2.out.cell 1 (v := .int .i64 0) rfl
    have a2 := HA2.out.cell 2 (v := .slice none 0 0) rfl
    go_wp2_with fail
    clear c0 c1 c2 c3 a0 a1 a2
    refine (codec_isAnswer12 2 (by decide) 2 (by decide) _).mono ?_
    rintro e w3 ⟨rfl, B⟩
    have HH3 := Lib.hid (HH2.out.below B (Nat.le_refl _)); have HA3 := Lib.hid (HA2.out.below B (Nat.le_refl _)); have HB3 := Lib.hid (HB2.out.trans (B.mono HB2.out.size)); clear B HH2 HA2 HB2
    have a0 := HA3.out.cell 0 (v := .int .i64 2) rfl
    have c0 := ((HH3.out.alloc (.cells #[.int .u8 0, .int .u8 2] 5)).alloc (.cells #[.slice (some ⟨w3.heap.size, 0, none⟩) 2 2] 142)).cell 0 (v := .int .i64 2) rfl
    have a2 := ((HA3.out.alloc (.cells #[.int .u8 0, .int .u8 2] 5)).alloc (.cells #[.slice (some ⟨w3.heap.size, 0, none⟩) 2 2] 142)).cell 2 (v := .slice none 0 0) rfl
    go_wp2_with fail
    refine (each_recs0 _ _ _ _).mono ?_
    rintro e w4 ⟨rfl, rfl⟩
    go_wp2_with fail
    go_ret2
    refine ⟨⟨_, _, rfl, ?_⟩, (HB3.out.alloc HB3.out.size _).alloc (by have := HB3.out.size; simp; omega) _⟩
    refine ⟨by decide, by decide, fun _ => ⟨w3.heap.size, 0, rfl, (by simp <;> omega), fun i x hi => ?_⟩⟩
    have HBX := ((Bx.new w3 #[.int .u8 0, .int .u8 2] 5).alloc (.cells #[.slice (some ⟨w3.heap.size, 0, none⟩) 2 2] 142))
    match i, hi with
    | 0, hi => simp at hi; subst hi; exact HBX.cell 0 rfl
    | 1, hi => simp at hi; subst hi; exact HBX.cell 1 rfl
    | i + 2, hi => simp at hi
end Go.Proofs.YtjdiilkljgljkaaGreatDoor
