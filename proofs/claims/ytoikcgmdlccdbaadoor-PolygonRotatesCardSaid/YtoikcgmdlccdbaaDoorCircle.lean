/- Contracts of package circle: the lifted determinant, its sign, the side. -/
import Derived.Test.YtoikcgmdlccdbaaDoorOrient
import Derived.Test.YtoikcgmdlccdbaaDoorGeoC
import Derived.Deep.DeepCutAuto
namespace Go.Proofs.YtoikcgmdlccdbaaDoor
set_option linter.unusedVariables false
set_option linter.unusedSimpArgs false
open Go.RowKit Wd

theorem nrm_fit {ax ay dx dy : Int} (h1 : IsI ax) (h2 : IsI ay) (h5 : IsI dx) (h6 : IsI dy) : Fit 3 (nrm ax ay dx dy) := fit3_of (by have := nrm_bd h1 h2 h5 h6; omega)
theorem mnr_fit {bx b_ cx cy dx dy : Int} (h1 : IsI bx) (h2 : IsI b_) (h3 : IsI cx) (h4 : IsI cy) (h5 : IsI dx) (h6 : IsI dy) : Fit 3 (mnr bx b_ cx cy dx dy) := fit3_of (mnr_bd h1 h2 h3 h4 h5 h6)
theorem mul_fit6 {x y : Int} (hx : Fit 3 x) (hy : Fit 3 y) : Fit 6 (x * y) := by
  unfold Fit at *
  have h := abs_mul_le (x := 2 * x) (y := 2 * y) (a := S 3) (b := S 3) ⟨by omega, by omega⟩ ⟨by omega, by omega⟩
  have e : 2 * x * (2 * y) = 4 * (x * y) := by grind
  rw [e, ← S_add] at h
  have hS := S_pos 6
  rw [show 3 + 3 = 6 from rfl] at h
  omega
/-- three vectors lie in one box -/
def Cut3V (w : World) (x1 y1 x2 y2 x3 y3 : Int) (s9 : Value) (wx : World) : Prop := ∃ (b : Nat) (U1 : Option Addr) (u1 : Nat) (V1 : Option Addr) (v1 : Nat) (U2 : Option Addr) (u2 : Nat) (V2 : Option Addr) (v2 : Nat) (U3 : Option Addr) (u3 : Nat) (V3 : Option Addr) (v3 : Nat),
  s9 = .pointer (some ⟨b, 0, none⟩) ∧ Bx wx b #[.slice U1 2 u1, .slice V1 2 v1, .slice U2 2 u2, .slice V2 2 v2, .slice U3 2 u3, .slice V3 2 v3] 129 ∧
  Sl wx .u64 U1 2 u1 (lmb x1) ∧ Sl wx .u64 V1 2 v1 (lmb y1) ∧ Sl wx .u64 U2 2 u2 (lmb x2) ∧ Sl wx .u64 V2 2 v2 (lmb y2) ∧ Sl wx .u64 U3 2 u3 (lmb x3) ∧ Sl wx .u64 V3 2 v3 (lmb y3) ∧ Below w.heap.size w wx
set_option maxHeartbeats 8000000 in
theorem circle_Value (ax ay bx b_ cx cy dx dy : Int) (hp : P4 ax ay bx b_ cx cy dx dy) (w : World) :
    Calls Tryd.prog 95 #[.agg #[.int .i64 ax, .int .i64 ay], .agg #[.int .i64 bx, .int .i64 b_], .agg #[.int .i64 cx, .int .i64 cy], .agg #[.int .i64 dx, .int .i64 dy]] w fun e w' => (∃ A c, e = .returned (.slice A 5 c) ∧ Sl w' .u64 A 5 c (lmb (circ ax ay bx b_ cx cy dx dy))) ∧ Below w.heap.size w w' := by
  have HB0 := Lib.hid (Below.refl w.heap.size w)
  go_enter Tryd.func95, Tryd.ntmps95
  go_wp2_with fail
  have B : Below w.heap.size w ((((w.alloc (.cells #[.int .i64 ax, .int .i64 ay] 28)).alloc (.cells #[.int .i64 bx, .int .i64 b_] 28)).alloc (.cells #[.int .i64 cx, .int .i64 cy] 28)).alloc (.cells #[.int .i64 dx, .int .i64 dy] 28)) := ((((HB0.out.alloc HB0.out.size _).alloc (HB0.out.alloc HB0.out.size _).size _).alloc ((HB0.out.alloc HB0.out.size _).alloc (HB0.out.alloc HB0.out.size _).size _).size _).alloc (((HB0.out.alloc HB0.out.size _).alloc (HB0.out.alloc HB0.out.size _).size _).alloc ((HB0.out.alloc HB0.out.size _).alloc (HB0.out.alloc HB0.out.size _).size _).size _).size _)
  have C : Below w.heap.size w ((((w.alloc (.cells #[.int .i64 ax, .int .i64 ay] 28)).alloc (.cells #[.int .i64 bx, .int .i64 b_] 28)).alloc (.cells #[.int .i64 cx, .int .i64 cy] 28)).alloc (.cells #[.int .i64 dx, .int .i64 dy] 28)) := (((((Below.refl w.heap.size w).alloc (Nat.le_refl _) _).alloc (by simp; try omega) _).alloc (by simp; try omega) _).alloc (by simp; try omega) _)
  have X0 : Bx ((((w.alloc (.cells #[.int .i64 ax, .int .i64 ay] 28)).alloc (.cells #[.int .i64 bx, .int .i64 b_] 28)).alloc (.cells #[.int .i64 cx, .int .i64 cy] 28)).alloc (.cells #[.int .i64 dx, .int .i64 dy] 28)) (w.heap.size) #[.int .i64 ax, .int .i64 ay] 28 := by simpa using ((((Bx.new w #[.int .i64 ax, .int .i64 ay] 28).alloc _).alloc _).alloc _)
  have X1 : Bx ((((w.alloc (.cells #[.int .i64 ax, .int .i64 ay] 28)).alloc (.cells #[.int .i64 bx, .int .i64 b_] 28)).alloc (.cells #[.int .i64 cx, .int .i64 cy] 28)).alloc (.cells #[.int .i64 dx, .int .i64 dy] 28)) (w.heap.size + 1) #[.int .i64 bx, .int .i64 b_] 28 := by simpa using (((Bx.new (w.alloc (.cells #[.int .i64 ax, .int .i64 ay] 28)) #[.int .i64 bx, .int .i64 b_] 28).alloc _).alloc _)
  have X2 : Bx ((((w.alloc (.cells #[.int .i64 ax, .int .i64 ay] 28)).alloc (.cells #[.int .i64 bx, .int .i64 b_] 28)).alloc (.cells #[.int .i64 cx, .int .i64 cy] 28)).alloc (.cells #[.int .i64 dx, .int .i64 dy] 28)) (w.heap.size + 1 + 1) #[.int .i64 cx, .int .i64 cy] 28 := by simpa using ((Bx.new ((w.alloc (.cells #[.int .i64 ax, .int .i64 ay] 28)).alloc (.cells #[.int .i64 bx, .int .i64 b_] 28)) #[.int .i64 cx, .int .i64 cy] 28).alloc _)
  have X3 : Bx ((((w.alloc (.cells #[.int .i64 ax, .int .i64 ay] 28)).alloc (.cells #[.int .i64 bx, .int .i64 b_] 28)).alloc (.cells #[.int .i64 cx, .int .i64 cy] 28)).alloc (.cells #[.int .i64 dx, .int .i64 dy] 28)) (w.heap.size + 1 + 1 + 1) #[.int .i64 dx, .int .i64 dy] 28 := by simpa using (Bx.new (((w.alloc (.cells #[.int .i64 ax, .int .i64 ay] 28)).alloc (.cells #[.int .i64 bx, .int .i64 b_] 28)).alloc (.cells #[.int .i64 cx, .int .i64 cy] 28)) #[.int .i64 dx, .int .i64 dy] 28)
  have HB1 := Lib.hid B
  have FP_1 := Lib.hid X0
  have FQ_1 := Lib.hid X1
  have FT_1 := Lib.hid X2
  have FV_1 := Lib.hid X3
  clear B C X0 X1 X2 X3 HB0 
  generalize ((((w.alloc (.cells #[.int .i64 ax, .int .i64 ay] 28)).alloc (.cells #[.int .i64 bx, .int .i64 b_] 28)).alloc (.cells #[.int .i64 cx, .int .i64 cy] 28)).alloc (.cells #[.int .i64 dx, .int .i64 dy] 28)) = w1 at *
  go_upto_region 1 with (fail)
  have M0 := trivial
  have QF := Lib.hid (show ∀ w', Below w1.heap.size w1 w' → w'.cell? ⟨w.heap.size, 0, none⟩ = some (.int .i64 ax) ∧ w'.cell? ⟨w.heap.size, 1, none⟩ = some (.int .i64 ay) ∧ w'.cell? ⟨w.heap.size + 1, 0, none⟩ = some (.int .i64 bx) ∧ w'.cell? ⟨w.heap.size + 1, 1, none⟩ = some (.int .i64 b_) ∧ w'.cell? ⟨w.heap.size + 1 + 1, 0, none⟩ = some (.int .i64 cx) ∧ w'.cell? ⟨w.heap.size + 1 + 1, 1, none⟩ = some (.int .i64 cy) ∧ w'.cell? ⟨w.heap.size + 1 + 1 + 1, 0, none⟩ = some (.int .i64 dx) ∧ w'.cell? ⟨w.heap.size + 1 + 1 + 1, 1, none⟩ = some (.int .i64 dy) from fun w' hb => ⟨(FP_1.out.below hb (Nat.le_refl _)).cell 0 (v := .int .i64 ax) rfl, (FP_1.out.below hb (Nat.le_refl _)).cell 1 (v := .int .i64 ay) rfl, (FQ_1.out.below hb (Nat.le_refl _)).cell 0 (v := .int .i64 bx) rfl, (FQ_1.out.below hb (Nat.le_refl _)).cell 1 (v := .int .i64 b_) rfl, (FT_1.out.below hb (Nat.le_refl _)).cell 0 (v := .int .i64 cx) rfl, (FT_1.out.below hb (Nat.le_refl _)).cell 1 (v := .int .i64 cy) rfl, (FV_1.out.below hb (Nat.le_refl _)).cell 0 (v := .int .i64 dx) rfl, (FV_1.out.below hb (Nat.le_refl _)).cell 1 (v := .int .i64 dy) rfl⟩)
  go_cut [9] (fun s9 wx => Cut3V w1 (ax - dx) (ay - dy) (bx - dx) (b_ - dy) (cx - dx) (cy - dy) s9 wx)
  case first =>
    go_region_held3 (fun w' => w'.cell? ⟨w.heap.size, 0, none⟩ = some (.int .i64 ax) ∧ w'.cell? ⟨w.heap.size, 1, none⟩ = some (.int .i64 ay) ∧ w'.cell? ⟨w.heap.size + 1, 0, none⟩ = some (.int .i64 bx) ∧ w'.cell? ⟨w.heap.size + 1, 1, none⟩ = some (.int .i64 b_) ∧ w'.cell? ⟨w.heap.size + 1 + 1, 0, none⟩ = some (.int .i64 cx) ∧ w'.cell? ⟨w.heap.size + 1 + 1, 1, none⟩ = some (.int .i64 cy) ∧ w'.cell? ⟨w.heap.size + 1 + 1 + 1, 0, none⟩ = some (.int .i64 dx) ∧ w'.cell? ⟨w.heap.size + 1 + 1 + 1, 1, none⟩ = some (.int .i64 dy)) (first | (with_reducible refine QF.out _ ?_; (repeat (first | (with_reducible refine below_st ?_ ?_; (focus (first | with_reducible assumption | with_reducible exact Nat.le_refl _ | (simp; done) | omega | (simp <;> omega)))) | with_reducible refine below_tr ?_ C4.out | with_reducible refine below_tr ?_ C3.out | with_reducible refine below_tr ?_ C2.out | with_reducible refine below_al ?_ | with_reducible exact below_rf | with_reducible refine below_dr ?_)); done) | (with_reducible refine QF.out _ ?_; (repeat (first | (with_reducible refine below_st ?_ ?_; (focus (first | with_reducible assumption | with_reducible exact Nat.le_refl _ | (simp; done) | omega | (simp <;> omega)))) | with_reducible refine below_tr ?_ C3.out | with_reducible refine below_tr ?_ C2.out | with_reducible refine below_al ?_ | with_reducible exact below_rf | with_reducible refine below_dr ?_)); done) | (with_reducible refine QF.out _ ?_; (repeat (first | (with_reducible refine below_st ?_ ?_; (focus (first | with_reducible assumption | with_reducible exact Nat.le_refl _ | (simp; done) | omega | (simp <;> omega)))) | with_reducible refine below_tr ?_ C2.out | with_reducible refine below_al ?_ | with_reducible exact below_rf | with_reducible refine below_dr ?_)); done) | (with_reducible refine QF.out _ ?_; (repeat (first | (with_reducible refine below_st ?_ ?_; (focus (first | with_reducible assumption | with_reducible exact Nat.le_refl _ | (simp; done) | omega | (simp <;> omega)))) | with_reducible refine below_al ?_ | with_reducible exact below_rf | with_reducible refine below_dr ?_)); done)) (first
          | (go_at_call 94; clear M2; have M3 := trivial; refine (diff_Between dx dy cx cy hp.g hp.h hp.e hp.f _).mono ?_; rintro e w4 ⟨⟨U3, u3, V3, v3, rfl, S3, T3⟩, B⟩; have C4 := Lib.hid B; clear B; have hs4 : w1.heap.size ≤ w4.heap.size := Below.size (B := w1.heap.size) (by (repeat (first | (with_reducible refine below_st ?_ ?_; (focus (first | with_reducible assumption | with_reducible exact Nat.le_refl _ | (simp; done) | omega | (simp <;> omega)))) | with_reducible refine below_tr ?_ C4.out | with_reducible refine below_tr ?_ C3.out | with_reducible refine below_tr ?_ C2.out | with_reducible refine below_al ?_ | with_reducible exact below_rf | with_reducible refine below_dr ?_))); have GX1_ := Lib.hid (fwd_sl (w' := w4) GX1.out (by (repeat (first | with_reducible exact below_rf | with_reducible refine below_tr ?_ C4.out | with_reducible refine below_al ?_ | with_reducible refine below_dr ?_)))); clear GX1; have GX1 := Lib.hid GX1_.out; clear GX1_; have GY1_ := Lib.hid (fwd_sl (w' := w4) GY1.out (by (repeat (first | with_reducible exact below_rf | with_reducible refine below_tr ?_ C4.out | with_reducible refine below_al ?_ | with_reducible refine below_dr ?_)))); clear GY1; have GY1 := Lib.hid GY1_.out; clear GY1_; have GX2_ := Lib.hid (fwd_sl (w' := w4) GX2.out (by (repeat (first | with_reducible exact below_rf | with_reducible refine below_tr ?_ C4.out | with_reducible refine below_al ?_ | with_reducible refine below_dr ?_)))); clear GX2; have GX2 := Lib.hid GX2_.out; clear GX2_; have GY2_ := Lib.hid (fwd_sl (w' := w4) GY2.out (by (repeat (first | with_reducible exact below_rf | with_reducible refine below_tr ?_ C4.out | with_reducible refine below_al ?_ | with_reducible refine below_dr ?_)))); clear GY2; have GY2 := Lib.hid GY2_.out; clear GY2_; have GX3 := Lib.hid S3; clear S3; have GY3 := Lib.hid T3; clear T3; (try (refine have_then (T := Bx w4 (w1.heap.size) #[.slice none 0 0, .slice none 0 0, .slice none 0 0, .slice none 0 0, .slice none 0 0, .slice none 0 0] 129) ?_ (fun y4_0_0 => ?_); (focus ((repeat (first | (with_reducible refine bx_new ?_; (focus (first | with_reducible rfl | (simp; done)))) | with_reducible refine bx_tr ?_ C4.out | with_reducible refine bx_tr ?_ C3.out | with_reducible refine bx_tr ?_ C2.out | with_reducible refine bx_set2 (z0 := .slice none 0 0) (z1 := .slice none 0 0) ?_ | with_reducible refine bx_set2 (z0 := .int .i64 0) (z1 := .slice none 0 0) ?_ | with_reducible refine bx_set4 (z0 := .int .i64 0) (z1 := .slice none 0 0) (z2 := .int .i64 0) (z3 := .slice none 0 0) ?_ | (with_reducible refine bx_ot ?_ ?_; (focus (first | with_reducible assumption | with_reducible exact Nat.le_refl _ | (simp; done) | omega | (simp <;> omega)))) | with_reducible refine bx_al ?_ | with_reducible refine bx_dr ?_)); done)); have y4_0_0c0 := y4_0_0.cell 0 (v := .slice none 0 0) rfl; have y4_0_0f0 := y4_0_0.free 0; have y4_0_0c1 := y4_0_0.cell 1 (v := .slice none 0 0) rfl; have y4_0_0f1 := y4_0_0.free 1; have y4_0_0c2 := y4_0_0.cell 2 (v := .slice none 0 0) rfl; have y4_0_0f2 := y4_0_0.free 2; have y4_0_0c3 := y4_0_0.cell 3 (v := .slice none 0 0) rfl; have y4_0_0f3 := y4_0_0.free 3; have y4_0_0c4 := y4_0_0.cell 4 (v := .slice none 0 0) rfl; have y4_0_0f4 := y4_0_0.free 4; have y4_0_0c5 := y4_0_0.cell 5 (v := .slice none 0 0) rfl; have y4_0_0f5 := y4_0_0.free 5; have y4_0_0l := y4_0_0.lt; have y4_0_0n := Nat.ne_of_lt y4_0_0l; have y4_0_0m := Nat.ne_of_gt y4_0_0l; have y4_0_0h := Lib.hid y4_0_0; clear y4_0_0)); (try (refine have_then (T := Bx w4 (w2.heap.size) #[.slice none 0 0, .slice none 0 0, .slice none 0 0, .slice none 0 0, .slice none 0 0, .slice none 0 0] 129) ?_ (fun y4_1_0 => ?_); (focus ((repeat (first | (with_reducible refine bx_new ?_; (focus (first | with_reducible rfl | (simp; done)))) | with_reducible refine bx_tr ?_ C4.out | with_reducible refine bx_tr ?_ C3.out | with_reducible refine bx_tr ?_ C2.out | with_reducible refine bx_set2 (z0 := .slice none 0 0) (z1 := .slice none 0 0) ?_ | with_reducible refine bx_set2 (z0 := .int .i64 0) (z1 := .slice none 0 0) ?_ | with_reducible refine bx_set4 (z0 := .int .i64 0) (z1 := .slice none 0 0) (z2 := .int .i64 0) (z3 := .slice none 0 0) ?_ | (with_reducible refine bx_ot ?_ ?_; (focus (first | with_reducible assumption | with_reducible exact Nat.le_refl _ | (simp; done) | omega | (simp <;> omega)))) | with_reducible refine bx_al ?_ | with_reducible refine bx_dr ?_)); done)); have y4_1_0c0 := y4_1_0.cell 0 (v := .slice none 0 0) rfl; have y4_1_0f0 := y4_1_0.free 0; have y4_1_0c1 := y4_1_0.cell 1 (v := .slice none 0 0) rfl; have y4_1_0f1 := y4_1_0.free 1; have y4_1_0c2 := y4_1_0.cell 2 (v := .slice none 0 0) rfl; have y4_1_0f2 := y4_1_0.free 2; have y4_1_0c3 := y4_1_0.cell 3 (v := .slice none 0 0) rfl; have y4_1_0f3 := y4_1_0.free 3; have y4_1_0c4 := y4_1_0.cell 4 (v := .slice none 0 0) rfl; have y4_1_0f4 := y4_1_0.free 4; have y4_1_0c5 := y4_1_0.cell 5 (v := .slice none 0 0) rfl; have y4_1_0f5 := y4_1_0.free 5; have y4_1_0l := y4_1_0.lt; have y4_1_0n := Nat.ne_of_lt y4_1_0l; have y4_1_0m := Nat.ne_of_gt y4_1_0l; have y4_1_0h := Lib.hid y4_1_0; clear y4_1_0)); (try (refine have_then (T := Bx w4 (w3.heap.size) #[.slice none 0 0, .slice none 0 0, .slice none 0 0, .slice none 0 0, .slice none 0 0, .slice none 0 0] 129) ?_ (fun y4_2_0 => ?_); (focus ((repeat (first | (with_reducible refine bx_new ?_; (focus (first | with_reducible rfl | (simp; done)))) | with_reducible refine bx_tr ?_ C4.out | with_reducible refine bx_tr ?_ C3.out | with_reducible refine bx_tr ?_ C2.out | with_reducible refine bx_set2 (z0 := .slice none 0 0) (z1 := .slice none 0 0) ?_ | with_reducible refine bx_set2 (z0 := .int .i64 0) (z1 := .slice none 0 0) ?_ | with_reducible refine bx_set4 (z0 := .int .i64 0) (z1 := .slice none 0 0) (z2 := .int .i64 0) (z3 := .slice none 0 0) ?_ | (with_reducible refine bx_ot ?_ ?_; (focus (first | with_reducible assumption | with_reducible exact Nat.le_refl _ | (simp; done) | omega | (simp <;> omega)))) | with_reducible refine bx_al ?_ | with_reducible refine bx_dr ?_)); done)); have y4_2_0c0 := y4_2_0.cell 0 (v := .slice none 0 0) rfl; have y4_2_0f0 := y4_2_0.free 0; have y4_2_0c1 := y4_2_0.cell 1 (v := .slice none 0 0) rfl; have y4_2_0f1 := y4_2_0.free 1; have y4_2_0c2 := y4_2_0.cell 2 (v := .slice none 0 0) rfl; have y4_2_0f2 := y4_2_0.free 2; have y4_2_0c3 := y4_2_0.cell 3 (v := .slice none 0 0) rfl; have y4_2_0f3 := y4_2_0.free 3; have y4_2_0c4 := y4_2_0.cell 4 (v := .slice none 0 0) rfl; have y4_2_0f4 := y4_2_0.free 4; have y4_2_0c5 := y4_2_0.cell 5 (v := .slice none 0 0) rfl; have y4_2_0f5 := y4_2_0.free 5; have y4_2_0l := y4_2_0.lt; have y4_2_0n := Nat.ne_of_lt y4_2_0l; have y4_2_0m := Nat.ne_of_gt y4_2_0l; have y4_2_0h := Lib.hid y4_2_0; clear y4_2_0)))
          | (go_at_call 94; clear M1; have M2 := trivial; refine (diff_Between dx dy bx b_ hp.g hp.h hp.c hp.d _).mono ?_; rintro e w3 ⟨⟨U2, u2, V2, v2, rfl, S2, T2⟩, B⟩; have C3 := Lib.hid B; clear B; have hs3 : w1.heap.size ≤ w3.heap.size := Below.size (B := w1.heap.size) (by (repeat (first | (with_reducible refine below_st ?_ ?_; (focus (first | with_reducible assumption | with_reducible exact Nat.le_refl _ | (simp; done) | omega | (simp <;> omega)))) | with_reducible refine below_tr ?_ C3.out | with_reducible refine below_tr ?_ C2.out | with_reducible refine below_al ?_ | with_reducible exact below_rf | with_reducible refine below_dr ?_))); have GX1_ := Lib.hid (fwd_sl (w' := w3) GX1.out (by (repeat (first | with_reducible exact below_rf | with_reducible refine below_tr ?_ C3.out | with_reducible refine below_al ?_ | with_reducible refine below_dr ?_)))); clear GX1; have GX1 := Lib.hid GX1_.out; clear GX1_; have GY1_ := Lib.hid (fwd_sl (w' := w3) GY1.out (by (repeat (first | with_reducible exact below_rf | with_reducible refine below_tr ?_ C3.out | with_reducible refine below_al ?_ | with_reducible refine below_dr ?_)))); clear GY1; have GY1 := Lib.hid GY1_.out; clear GY1_; have GX2 := Lib.hid S2; clear S2; have GY2 := Lib.hid T2; clear T2; (try (refine have_then (T := Bx w3 (w1.heap.size) #[.slice none 0 0, .slice none 0 0, .slice none 0 0, .slice none 0 0, .slice none 0 0, .slice none 0 0] 129) ?_ (fun y3_0_0 => ?_); (focus ((repeat (first | (with_reducible refine bx_new ?_; (focus (first | with_reducible rfl | (simp; done)))) | with_reducible refine bx_tr ?_ C3.out | with_reducible refine bx_tr ?_ C2.out | with_reducible refine bx_set2 (z0 := .slice none 0 0) (z1 := .slice none 0 0) ?_ | with_reducible refine bx_set2 (z0 := .int .i64 0) (z1 := .slice none 0 0) ?_ | with_reducible refine bx_set4 (z0 := .int .i64 0) (z1 := .slice none 0 0) (z2 := .int .i64 0) (z3 := .slice none 0 0) ?_ | (with_reducible refine bx_ot ?_ ?_; (focus (first | with_reducible assumption | with_reducible exact Nat.le_refl _ | (simp; done) | omega | (simp <;> omega)))) | with_reducible refine bx_al ?_ | with_reducible refine bx_dr ?_)); done)); have y3_0_0c0 := y3_0_0.cell 0 (v := .slice none 0 0) rfl; have y3_0_0f0 := y3_0_0.free 0; have y3_0_0c1 := y3_0_0.cell 1 (v := .slice none 0 0) rfl; have y3_0_0f1 := y3_0_0.free 1; have y3_0_0c2 := y3_0_0.cell 2 (v := .slice none 0 0) rfl; have y3_0_0f2 := y3_0_0.free 2; have y3_0_0c3 := y3_0_0.cell 3 (v := .slice none 0 0) rfl; have y3_0_0f3 := y3_0_0.free 3; have y3_0_0c4 := y3_0_0.cell 4 (v := .slice none 0 0) rfl; have y3_0_0f4 := y3_0_0.free 4; have y3_0_0c5 := y3_0_0.cell 5 (v := .slice none 0 0) rfl; have y3_0_0f5 := y3_0_0.free 5; have y3_0_0l := y3_0_0.lt; have y3_0_0n := Nat.ne_of_lt y3_0_0l; have y3_0_0m := Nat.ne_of_gt y3_0_0l; have y3_0_0h := Lib.hid y3_0_0; clear y3_0_0)); (try (refine have_then (T := Bx w3 (w2.heap.size) #[.slice none 0 0, .slice none 0 0, .slice none 0 0, .slice none 0 0, .slice none 0 0, .slice none 0 0] 129) ?_ (fun y3_1_0 => ?_); (focus ((repeat (first | (with_reducible refine bx_new ?_; (focus (first | with_reducible rfl | (simp; done)))) | with_reducible refine bx_tr ?_ C3.out | with_reducible refine bx_tr ?_ C2.out | with_reducible refine bx_set2 (z0 := .slice none 0 0) (z1 := .slice none 0 0) ?_ | with_reducible refine bx_set2 (z0 := .int .i64 0) (z1 := .slice none 0 0) ?_ | with_reducible refine bx_set4 (z0 := .int .i64 0) (z1 := .slice none 0 0) (z2 := .int .i64 0) (z3 := .slice none 0 0) ?_ | (with_reducible refine bx_ot ?_ ?_; (focus (first | with_reducible assumption | with_reducible exact Nat.le_refl _ | (simp; done) | omega | (simp <;> omega)))) | with_reducible refine bx_al ?_ | with_reducible refine bx_dr ?_)); done)); have y3_1_0c0 := y3_1_0.cell 0 (v := .slice none 0 0) rfl; have y3_1_0f0 := y3_1_0.free 0; have y3_1_0c1 := y3_1_0.cell 1 (v := .slice none 0 0) rfl; have y3_1_0f1 := y3_1_0.free 1; have y3_1_0c2 := y3_1_0.cell 2 (v := .slice none 0 0) rfl; have y3_1_0f2 := y3_1_0.free 2; have y3_1_0c3 := y3_1_0.cell 3 (v := .slice none 0 0) rfl; have y3_1_0f3 := y3_1_0.free 3; have y3_1_0c4 := y3_1_0.cell 4 (v := .slice none 0 0) rfl; have y3_1_0f4 := y3_1_0.free 4; have y3_1_0c5 := y3_1_0.cell 5 (v := .slice none 0 0) rfl; have y3_1_0f5 := y3_1_0.free 5; have y3_1_0l := y3_1_0.lt; have y3_1_0n := Nat.ne_of_lt y3_1_0l; have y3_1_0m := Nat.ne_of_gt y3_1_0l; have y3_1_0h := Lib.hid y3_1_0; clear y3_1_0)))
          | (go_at_call 94; clear M0; have M1 := trivial; refine (diff_Between dx dy ax ay hp.g hp.h hp.a hp.b _).mono ?_; rintro e w2 ⟨⟨U1, u1, V1, v1, rfl, S1, T1⟩, B⟩; have C2 := Lib.hid B; clear B; have hs2 : w1.heap.size ≤ w2.heap.size := Below.size (B := w1.heap.size) (by (repeat (first | (with_reducible refine below_st ?_ ?_; (focus (first | with_reducible assumption | with_reducible exact Nat.le_refl _ | (simp; done) | omega | (simp <;> omega)))) | with_reducible refine below_tr ?_ C2.out | with_reducible refine below_al ?_ | with_reducible exact below_rf | with_reducible refine below_dr ?_))); have GX1 := Lib.hid S1; clear S1; have GY1 := Lib.hid T1; clear T1; (try (refine have_then (T := Bx w2 (w1.heap.size) #[.slice none 0 0, .slice none 0 0, .slice none 0 0, .slice none 0 0, .slice none 0 0, .slice none 0 0] 129) ?_ (fun y2_0_0 => ?_); (focus ((repeat (first | (with_reducible refine bx_new ?_; (focus (first | with_reducible rfl | (simp; done)))) | with_reducible refine bx_tr ?_ C2.out | with_reducible refine bx_set2 (z0 := .slice none 0 0) (z1 := .slice none 0 0) ?_ | with_reducible refine bx_set2 (z0 := .int .i64 0) (z1 := .slice none 0 0) ?_ | with_reducible refine bx_set4 (z0 := .int .i64 0) (z1 := .slice none 0 0) (z2 := .int .i64 0) (z3 := .slice none 0 0) ?_ | (with_reducible refine bx_ot ?_ ?_; (focus (first | with_reducible assumption | with_reducible exact Nat.le_refl _ | (simp; done) | omega | (simp <;> omega)))) | with_reducible refine bx_al ?_ | with_reducible refine bx_dr ?_)); done)); have y2_0_0c0 := y2_0_0.cell 0 (v := .slice none 0 0) rfl; have y2_0_0f0 := y2_0_0.free 0; have y2_0_0c1 := y2_0_0.cell 1 (v := .slice none 0 0) rfl; have y2_0_0f1 := y2_0_0.free 1; have y2_0_0c2 := y2_0_0.cell 2 (v := .slice none 0 0) rfl; have y2_0_0f2 := y2_0_0.free 2; have y2_0_0c3 := y2_0_0.cell 3 (v := .slice none 0 0) rfl; have y2_0_0f3 := y2_0_0.free 3; have y2_0_0c4 := y2_0_0.cell 4 (v := .slice none 0 0) rfl; have y2_0_0f4 := y2_0_0.free 4; have y2_0_0c5 := y2_0_0.cell 5 (v := .slice none 0 0) rfl; have y2_0_0f5 := y2_0_0.free 5; have y2_0_0l := y2_0_0.lt; have y2_0_0n := Nat.ne_of_lt y2_0_0l; have y2_0_0m := Nat.ne_of_gt y2_0_0l; have y2_0_0h := Lib.hid y2_0_0; clear y2_0_0))))
    all_goals (go_wp2_with fail; go_meet; exact ⟨_, U1, u1, V1, v1, U2, u2, V2, v2, U3, u3, V3, v3, rfl, by (repeat (first | with_reducible exact y4_0_0h.out | with_reducible exact y4_1_0h.out | with_reducible exact y4_2_0h.out | (with_reducible refine bx_set6 (z := .slice none 0 0) ?_) | (with_reducible refine bx_new ?_; (focus (first | with_reducible rfl | (simp; done)))) | with_reducible refine bx_al ?_ | with_reducible refine bx_dr ?_)), by (repeat (first | with_reducible exact GX1.out | (with_reducible refine sl_set6 (t := 129) ?_ ?_; (focus ((repeat (first | with_reducible exact y4_0_0h.out | with_reducible exact y4_1_0h.out | with_reducible exact y4_2_0h.out | (with_reducible refine bx_set6 (z := .slice none 0 0) ?_) | (with_reducible refine bx_new ?_; (focus (first | with_reducible rfl | (simp; done)))) | with_reducible refine bx_al ?_ | with_reducible refine bx_dr ?_)); done))) | with_reducible refine sl_al ?_ | with_reducible refine sl_dr ?_)), by (repeat (first | with_reducible exact GY1.out | (with_reducible refine sl_set6 (t := 129) ?_ ?_; (focus ((repeat (first | with_reducible exact y4_0_0h.out | with_reducible exact y4_1_0h.out | with_reducible exact y4_2_0h.out | (with_reducible refine bx_set6 (z := .slice none 0 0) ?_) | (with_reducible refine bx_new ?_; (focus (first | with_reducible rfl | (simp; done)))) | with_reducible refine bx_al ?_ | with_reducible refine bx_dr ?_)); done))) | with_reducible refine sl_al ?_ | with_reducible refine sl_dr ?_)), by (repeat (first | with_reducible exact GX2.out | (with_reducible refine sl_set6 (t := 129) ?_ ?_; (focus ((repeat (first | with_reducible exact y4_0_0h.out | with_reducible exact y4_1_0h.out | with_reducible exact y4_2_0h.out | (with_reducible refine bx_set6 (z := .slice none 0 0) ?_) | (with_reducible refine bx_new ?_; (focus (first | with_reducible rfl | (simp; done)))) | with_reducible refine bx_al ?_ | with_reducible refine bx_dr ?_)); done))) | with_reducible refine sl_al ?_ | with_reducible refine sl_dr ?_)), by (repeat (first | with_reducible exact GY2.out | (with_reducible refine sl_set6 (t := 129) ?_ ?_; (focus ((repeat (first | with_reducible exact y4_0_0h.out | with_reducible exact y4_1_0h.out | with_reducible exact y4_2_0h.out | (with_reducible refine bx_set6 (z := .slice none 0 0) ?_) | (with_reducible refine bx_new ?_; (focus (first | with_reducible rfl | (simp; done)))) | with_reducible refine bx_al ?_ | with_reducible refine bx_dr ?_)); done))) | with_reducible refine sl_al ?_ | with_reducible refine sl_dr ?_)), by (repeat (first | with_reducible exact GX3.out | (with_reducible refine sl_set6 (t := 129) ?_ ?_; (focus ((repeat (first | with_reducible exact y4_0_0h.out | with_reducible exact y4_1_0h.out | with_reducible exact y4_2_0h.out | (with_reducible refine bx_set6 (z := .slice none 0 0) ?_) | (with_reducible refine bx_new ?_; (focus (first | with_reducible rfl | (simp; done)))) | with_reducible refine bx_al ?_ | with_reducible refine bx_dr ?_)); done))) | with_reducible refine sl_al ?_ | with_reducible refine sl_dr ?_)), by (repeat (first | with_reducible exact GY3.out | (with_reducible refine sl_set6 (t := 129) ?_ ?_; (focus ((repeat (first | with_reducible exact y4_0_0h.out | with_reducible exact y4_1_0h.out | with_reducible exact y4_2_0h.out | (with_reducible refine bx_set6 (z := .slice none 0 0) ?_) | (with_reducible refine bx_new ?_; (focus (first | with_reducible rfl | (simp; done)))) | with_reducible refine bx_al ?_ | with_reducible refine bx_dr ?_)); done))) | with_reducible refine sl_al ?_ | with_reducible refine sl_dr ?_)), by (repeat (first | (with_reducible refine below_st ?_ ?_; (focus (first | with_reducible assumption | with_reducible exact Nat.le_refl _ | (simp; done) | omega | (simp <;> omega)))) | with_reducible refine below_tr ?_ C4.out | with_reducible refine below_tr ?_ C3.out | with_reducible refine below_tr ?_ C2.out | with_reducible refine below_al ?_ | with_reducible exact below_rf | with_reducible refine below_dr ?_))⟩)
  case rest =>
    clear QF M0
    obtain ⟨b9, U1, u1, V1, v1, U2, u2, V2, v2, U3, u3, V3, v3, rfl, H, S1, T1, S2, T2, S3, T3, HCB⟩ := hcut
    have FP_5 := Lib.hid (FP_1.out.below HCB (Nat.le_refl _)); clear FP_1
    have FQ_5 := Lib.hid (FQ_1.out.below HCB (Nat.le_refl _)); clear FQ_1
    have FT_5 := Lib.hid (FT_1.out.below HCB (Nat.le_refl _)); clear FT_1
    have FV_5 := Lib.hid (FV_1.out.below HCB (Nat.le_refl _)); clear FV_1
    have HB5 := Lib.hid (HB1.out.trans (HCB.mono HB1.out.size)); clear HCB HB1
    have FW := Lib.hid H; have FX1 := Lib.hid S1; have FY1 := Lib.hid T1; have FX2 := Lib.hid S2; have FY2 := Lib.hid T2; have FX3 := Lib.hid S3; have FY3 := Lib.hid T3; clear H S1 T1 S2 T2 S3 T3
    go_wp2_with fail
    refine (limb_From 0 5 5 rfl (by unfold IsI; omega) rfl _).mono ?_
    rintro e w6 ⟨Z0, z0, rfl, SZ, B⟩
    have HB6 := Lib.hid (HB5.out.trans (B.mono HB5.out.size))
    have FW_6 := Lib.hid (FW.out.below B (Nat.le_refl _))
    have FX1_6 := Lib.hid (FX1.out.below B (Nat.le_refl _))
    have FY1_6 := Lib.hid (FY1.out.below B (Nat.le_refl _))
    have FX2_6 := Lib.hid (FX2.out.below B (Nat.le_refl _))
    have FY2_6 := Lib.hid (FY2.out.below B (Nat.le_refl _))
    have FX3_6 := Lib.hid (FX3.out.below B (Nat.le_refl _))
    have FY3_6 := Lib.hid (FY3.out.below B (Nat.le_refl _))
    have FZ_6 := Lib.hid SZ
    clear B SZ HB5 FW FX1 FY1 FX2 FY2 FX3 FY3
    have s1 : IntKind.i64.wrap 1 = 1 := rfl; have s2 : IntKind.i64.wrap 2 = 2 := rfl; have s3 : IntKind.i64.wrap 3 = 3 := rfl; have s4 : IntKind.i64.wrap 4 = 4 := rfl
    have m1 : (1 : Int).tmod 3 = 1 := rfl; have m2 : (2 : Int).tmod 3 = 2 := rfl; have m3 : (3 : Int).tmod 3 = 0 := rfl; have m4 : (4 : Int).tmod 3 = 1 := rfl
    go_wp2_with fail
    refine wp_loop_rounds 4 ?_
    rw [rounds_succ]
    go_wp2_with fail
    have RB6 := Lib.hid (below_drew0 w6)
    have QS6 := Lib.hid (show w6.cell? ⟨b9, 0, none⟩ = some (.slice U1 2 u1) ∧ w6.cell? ⟨b9, 1, none⟩ = some (.slice V1 2 v1) ∧ w6.cell? ⟨b9, 2, none⟩ = some (.slice U2 2 u2) ∧ w6.cell? ⟨b9, 3, none⟩ = some (.slice V2 2 v2) ∧ w6.cell? ⟨b9, 4, none⟩ = some (.slice U3 2 u3) ∧ w6.cell? ⟨b9, 5, none⟩ = some (.slice V3 2 v3) from ⟨FW_6.out.cell 0 (v := .slice U1 2 u1) rfl, FW_6.out.cell 1 (v := .slice V1 2 v1) rfl, FW_6.out.cell 2 (v := .slice U2 2 u2) rfl, FW_6.out.cell 3 (v := .slice V2 2 v2) rfl, FW_6.out.cell 4 (v := .slice U3 2 u3) rfl, FW_6.out.cell 5 (v := .slice V3 2 v3) rfl⟩)
    have QF6 := Lib.hid (show ∀ w', Below w6.heap.size w6 w' → w'.cell? ⟨b9, 0, none⟩ = some (.slice U1 2 u1) ∧ w'.cell? ⟨b9, 1, none⟩ = some (.slice V1 2 v1) ∧ w'.cell? ⟨b9, 2, none⟩ = some (.slice U2 2 u2) ∧ w'.cell? ⟨b9, 3, none⟩ = some (.slice V2 2 v2) ∧ w'.cell? ⟨b9, 4, none⟩ = some (.slice U3 2 u3) ∧ w'.cell? ⟨b9, 5, none⟩ = some (.slice V3 2 v3) from fun w' hb => ⟨(FW_6.out.below hb (Nat.le_refl _)).cell 0 (v := .slice U1 2 u1) rfl, (FW_6.out.below hb (Nat.le_refl _)).cell 1 (v := .slice V1 2 v1) rfl, (FW_6.out.below hb (Nat.le_refl _)).cell 2 (v := .slice U2 2 u2) rfl, (FW_6.out.below hb (Nat.le_refl _)).cell 3 (v := .slice V2 2 v2) rfl, (FW_6.out.below hb (Nat.le_refl _)).cell 4 (v := .slice U3 2 u3) rfl, (FW_6.out.below hb (Nat.le_refl _)).cell 5 (v := .slice V3 2 v3) rfl⟩)
    go_region_held3 (fun w' => w'.cell? ⟨b9, 0, none⟩ = some (.slice U1 2 u1) ∧ w'.cell? ⟨b9, 1, none⟩ = some (.slice V1 2 v1) ∧ w'.cell? ⟨b9, 2, none⟩ = some (.slice U2 2 u2) ∧ w'.cell? ⟨b9, 3, none⟩ = some (.slice V2 2 v2) ∧ w'.cell? ⟨b9, 4, none⟩ = some (.slice U3 2 u3) ∧ w'.cell? ⟨b9, 5, none⟩ = some (.slice V3 2 v3)) (first | with_reducible exact QF6.out _ RB8.out | with_reducible exact QF6.out _ RB7.out | with_reducible exact QS6.out | with_reducible exact QF6.out _ RB6.out) (first
          | (go_at_call 92; have := RB7; clear this; refine (limb_Extend C1 4 d1 (mnr bx b_ cx cy dx dy) 3 3 rfl _ RC_7.out (fit_mono (mnr_fit hp.c hp.d hp.e hp.f hp.g hp.h) (by omega)) rfl rfl).mono ?_; rintro e w8 ⟨C2, d2, rfl, SC, B⟩; have RB8 := Lib.hid (RB7.out.trans (B.mono RB7.out.size)); have RC_8 := Lib.hid (RC_7.out.below B (Nat.le_refl _)); have RM_8 := Lib.hid SC; clear B SC)
          | (go_at_call 93; have := RB6; clear this; refine (diff_Cross U2 V2 U3 V3 u2 v2 u3 v3 _ _ _ _ _ (FX2_6.out.below RB6.out (Nat.le_refl _)) (FY2_6.out.below RB6.out (Nat.le_refl _)) (FX3_6.out.below RB6.out (Nat.le_refl _)) (FY3_6.out.below RB6.out (Nat.le_refl _)) (fit_sub hp.c hp.g) (fit_sub hp.d hp.h) (fit_sub hp.e hp.g) (fit_sub hp.f hp.h)).mono ?_; rintro e w7 ⟨⟨C1, d1, rfl, SC⟩, B⟩; have RB7 := Lib.hid (RB6.out.trans (B.mono RB6.out.size)); have RC_7 := Lib.hid (show Sl _ .u64 C1 4 d1 (lmb (mnr bx b_ cx cy dx dy)) from SC); clear B SC))
    have FW_8 := Lib.hid (FW_6.out.below RB8.out (Nat.le_refl _))
    have FX1_8 := Lib.hid (FX1_6.out.below RB8.out (Nat.le_refl _))
    have FY1_8 := Lib.hid (FY1_6.out.below RB8.out (Nat.le_refl _))
    have FX2_8 := Lib.hid (FX2_6.out.below RB8.out (Nat.le_refl _))
    have FY2_8 := Lib.hid (FY2_6.out.below RB8.out (Nat.le_refl _))
    have FX3_8 := Lib.hid (FX3_6.out.below RB8.out (Nat.le_refl _))
    have FY3_8 := Lib.hid (FY3_6.out.below RB8.out (Nat.le_refl _))
    have FZ_8 := Lib.hid (FZ_6.out.below RB8.out (Nat.le_refl _))
    have HB8 := Lib.hid (HB6.out.trans (RB8.out.mono HB6.out.size))
    clear HB6 FW_6 FX1_6 FY1_6 FX2_6 FY2_6 FX3_6 FY3_6 FZ_6
    have vW0 := FW_8.out.cell 0 (v := .slice U1 2 u1) rfl
    have vW1 := FW_8.out.cell 1 (v := .slice V1 2 v1) rfl
    have vW2 := FW_8.out.cell 2 (v := .slice U2 2 u2) rfl
    have vW3 := FW_8.out.cell 3 (v := .slice V2 2 v2) rfl
    have vW4 := FW_8.out.cell 4 (v := .slice U3 2 u3) rfl
    have vW5 := FW_8.out.cell 5 (v := .slice V3 2 v3) rfl
    go_wp2_with fail
    refine (diff_Norm U1 V1 u1 v1 _ _ _ FX1_8.out FY1_8.out (fit_sub hp.a hp.g) (fit_sub hp.b hp.h)).mono ?_
    rintro e w9 ⟨⟨L1, l1, rfl, SL0⟩, B⟩
    clear vW0 vW1 vW2 vW3 vW4 vW5
    have SL := (show Sl _ .u64 L1 4 l1 (lmb (nrm ax ay dx dy)) from SL0); clear SL0
    have HB9 := Lib.hid (HB8.out.trans (B.mono HB8.out.size))
    have FW_9 := Lib.hid (FW_8.out.below B (Nat.le_refl _))
    have FX1_9 := Lib.hid (FX1_8.out.below B (Nat.le_refl _))
    have FY1_9 := Lib.hid (FY1_8.out.below B (Nat.le_refl _))
    have FX2_9 := Lib.hid (FX2_8.out.below B (Nat.le_refl _))
    have FY2_9 := Lib.hid (FY2_8.out.below B (Nat.le_refl _))
    have FX3_9 := Lib.hid (FX3_8.out.below B (Nat.le_refl _))
    have FY3_9 := Lib.hid (FY3_8.out.below B (Nat.le_refl _))
    have FZ_9 := Lib.hid (FZ_8.out.below B (Nat.le_refl _))
    have FM_9 := Lib.hid (RM_8.out.below B (Nat.le_refl _))
    have FL_9 := Lib.hid SL
    clear B SL HB8 FW_8 FX1_8 FY1_8 FX2_8 FY2_8 FX3_8 FY3_8 FZ_8 RM_8
    go_wp2_with fail
    refine (limb_Extend L1 4 l1 (nrm ax ay dx dy) 3 3 rfl _ FL_9.out (fit_mono (nrm_fit hp.a hp.b hp.g hp.h) (by omega)) rfl rfl).mono ?_
    rintro e w10 ⟨L2, l2, rfl, SL, B⟩
    have HB10 := Lib.hid (HB9.out.trans (B.mono HB9.out.size))
    have FW_10 := Lib.hid (FW_9.out.below B (Nat.le_refl _))
    have FX1_10 := Lib.hid (FX1_9.out.below B (Nat.le_refl _))
    have FY1_10 := Lib.hid (FY1_9.out.below B (Nat.le_refl _))
    have FX2_10 := Lib.hid (FX2_9.out.below B (Nat.le_refl _))
    have FY2_10 := Lib.hid (FY2_9.out.below B (Nat.le_refl _))
    have FX3_10 := Lib.hid (FX3_9.out.below B (Nat.le_refl _))
    have FY3_10 := Lib.hid (FY3_9.out.below B (Nat.le_refl _))
    have FZ_10 := Lib.hid (FZ_9.out.below B (Nat.le_refl _))
    have FM_10 := Lib.hid (FM_9.out.below B (Nat.le_refl _))
    have FL_10 := Lib.hid (FL_9.out.below B (Nat.le_refl _))
    have FL_10 := Lib.hid SL
    clear B SL HB9 FW_9 FX1_9 FY1_9 FX2_9 FY2_9 FX3_9 FY3_9 FZ_9 FM_9 FL_9
    go_wp2_with fail
    refine (limb_Mul L2 C2 3 l2 3 d2 (nrm ax ay dx dy) (mnr bx b_ cx cy dx dy) _ FL_10.out FM_10.out (nrm_fit hp.a hp.b hp.g hp.h) (mnr_fit hp.c hp.d hp.e hp.f hp.g hp.h) rfl rfl (by omega)).mono ?_
    rintro e w11 ⟨K1, q1, rfl, SK0, B⟩
    have SK := (show Sl _ .u64 K1 6 q1 (lmb (nrm ax ay dx dy * mnr bx b_ cx cy dx dy)) from SK0); clear SK0
    have HB11 := Lib.hid (HB10.out.trans (B.mono HB10.out.size))
    have FW_11 := Lib.hid (FW_10.out.below B (Nat.le_refl _))
    have FX1_11 := Lib.hid (FX1_10.out.below B (Nat.le_refl _))
    have FY1_11 := Lib.hid (FY1_10.out.below B (Nat.le_refl _))
    have FX2_11 := Lib.hid (FX2_10.out.below B (Nat.le_refl _))
    have FY2_11 := Lib.hid (FY2_10.out.below B (Nat.le_refl _))
    have FX3_11 := Lib.hid (FX3_10.out.below B (Nat.le_refl _))
    have FY3_11 := Lib.hid (FY3_10.out.below B (Nat.le_refl _))
    have FZ_11 := Lib.hid (FZ_10.out.below B (Nat.le_refl _))
    have FM_11 := Lib.hid (FM_10.out.below B (Nat.le_refl _))
    have FL_11 := Lib.hid (FL_10.out.below B (Nat.le_refl _))
    have FK_11 := Lib.hid SK
    clear B SK HB10 FW_10 FX1_10 FY1_10 FX2_10 FY2_10 FX3_10 FY3_10 FZ_10 FM_10 FL_10
    go_wp2_with fail
    refine (limb_Extend K1 6 q1 (nrm ax ay dx dy * mnr bx b_ cx cy dx dy) 5 5 rfl _ FK_11.out (mul_fit6 (nrm_fit hp.a hp.b hp.g hp.h) (mnr_fit hp.c hp.d hp.e hp.f hp.g hp.h)) rfl rfl).mono ?_
    rintro e w12 ⟨K2, q2, rfl, SK, B⟩
    have HB12 := Lib.hid (HB11.out.trans (B.mono HB11.out.size))
    have FW_12 := Lib.hid (FW_11.out.below B (Nat.le_refl _))
    have FX1_12 := Lib.hid (FX1_11.out.below B (Nat.le_refl _))
    have FY1_12 := Lib.hid (FY1_11.out.below B (Nat.le_refl _))
    have FX2_12 := Lib.hid (FX2_11.out.below B (Nat.le_refl _))
    have FY2_12 := Lib.hid (FY2_11.out.below B (Nat.le_refl _))
    have FX3_12 := Lib.hid (FX3_11.out.below B (Nat.le_refl _))
    have FY3_12 := Lib.hid (FY3_11.out.below B (Nat.le_refl _))
    have FZ_12 := Lib.hid (FZ_11.out.below B (Nat.le_refl _))
    have FK_12 := Lib.hid (FK_11.out.below B (Nat.le_refl _))
    have FK_12 := Lib.hid SK
    clear B SK HB11 FW_11 FX1_11 FY1_11 FX2_11 FY2_11 FX3_11 FY3_11 FZ_11 FK_11
    go_wp2_with fail
    refine (limb_Add Z0 K2 5 z0 q2 (0) (nrm ax ay dx dy * mnr bx b_ cx cy dx dy) _ FZ_12.out FK_12.out rfl).mono ?_
    rintro e w13 ⟨Z1, z1, rfl, SZ, B⟩
    have HB13 := Lib.hid (HB12.out.trans (B.mono HB12.out.size))
    have FW_13 := Lib.hid (FW_12.out.below B (Nat.le_refl _))
    have FX1_13 := Lib.hid (FX1_12.out.below B (Nat.le_refl _))
    have FY1_13 := Lib.hid (FY1_12.out.below B (Nat.le_refl _))
    have FX2_13 := Lib.hid (FX2_12.out.below B (Nat.le_refl _))
    have FY2_13 := Lib.hid (FY2_12.out.below B (Nat.le_refl _))
    have FX3_13 := Lib.hid (FX3_12.out.below B (Nat.le_refl _))
    have FY3_13 := Lib.hid (FY3_12.out.below B (Nat.le_refl _))
    have FZ_13 := Lib.hid (FZ_12.out.below B (Nat.le_refl _))
    have FK_13 := Lib.hid (FK_12.out.below B (Nat.le_refl _))
    have FZ_13 := Lib.hid SZ
    clear B SZ HB12 FW_12 FX1_12 FY1_12 FX2_12 FY2_12 FX3_12 FY3_12 FZ_12 FK_12
    go_wp2_with fail
    rw [rounds_succ]
    go_wp2_with fail
    have RB13 := Lib.hid (below_drew0 w13)
    have QS13 := Lib.hid (show w13.cell? ⟨b9, 0, none⟩ = some (.slice U1 2 u1) ∧ w13.cell? ⟨b9, 1, none⟩ = some (.slice V1 2 v1) ∧ w13.cell? ⟨b9, 2, none⟩ = some (.slice U2 2 u2) ∧ w13.cell? ⟨b9, 3, none⟩ = some (.slice V2 2 v2) ∧ w13.cell? ⟨b9, 4, none⟩ = some (.slice U3 2 u3) ∧ w13.cell? ⟨b9, 5, none⟩ = some (.slice V3 2 v3) from ⟨FW_13.out.cell 0 (v := .slice U1 2 u1) rfl, FW_13.out.cell 1 (v := .slice V1 2 v1) rfl, FW_13.out.cell 2 (v := .slice U2 2 u2) rfl, FW_13.out.cell 3 (v := .slice V2 2 v2) rfl, FW_13.out.cell 4 (v := .slice U3 2 u3) rfl, FW_13.out.cell 5 (v := .slice V3 2 v3) rfl⟩)
    have QF13 := Lib.hid (show ∀ w', Below w13.heap.size w13 w' → w'.cell? ⟨b9, 0, none⟩ = some (.slice U1 2 u1) ∧ w'.cell? ⟨b9, 1, none⟩ = some (.slice V1 2 v1) ∧ w'.cell? ⟨b9, 2, none⟩ = some (.slice U2 2 u2) ∧ w'.cell? ⟨b9, 3, none⟩ = some (.slice V2 2 v2) ∧ w'.cell? ⟨b9, 4, none⟩ = some (.slice U3 2 u3) ∧ w'.cell? ⟨b9, 5, none⟩ = some (.slice V3 2 v3) from fun w' hb => ⟨(FW_13.out.below hb (Nat.le_refl _)).cell 0 (v := .slice U1 2 u1) rfl, (FW_13.out.below hb (Nat.le_refl _)).cell 1 (v := .slice V1 2 v1) rfl, (FW_13.out.below hb (Nat.le_refl _)).cell 2 (v := .slice U2 2 u2) rfl, (FW_13.out.below hb (Nat.le_refl _)).cell 3 (v := .slice V2 2 v2) rfl, (FW_13.out.below hb (Nat.le_refl _)).cell 4 (v := .slice U3 2 u3) rfl, (FW_13.out.below hb (Nat.le_refl _)).cell 5 (v := .slice V3 2 v3) rfl⟩)
    go_region_held3 (fun w' => w'.cell? ⟨b9, 0, none⟩ = some (.slice U1 2 u1) ∧ w'.cell? ⟨b9, 1, none⟩ = some (.slice V1 2 v1) ∧ w'.cell? ⟨b9, 2, none⟩ = some (.slice U2 2 u2) ∧ w'.cell? ⟨b9, 3, none⟩ = some (.slice V2 2 v2) ∧ w'.cell? ⟨b9, 4, none⟩ = some (.slice U3 2 u3) ∧ w'.cell? ⟨b9, 5, none⟩ = some (.slice V3 2 v3)) (first | with_reducible exact QF13.out _ RB15.out | with_reducible exact QF13.out _ RB14.out | with_reducible exact QS13.out | with_reducible exact QF13.out _ RB13.out) (first
          | (go_at_call 92; have := RB14; clear this; refine (limb_Extend C1 4 d1 (mnr cx cy ax ay dx dy) 3 3 rfl _ RC_14.out (fit_mono (mnr_fit hp.e hp.f hp.a hp.b hp.g hp.h) (by omega)) rfl rfl).mono ?_; rintro e w15 ⟨C2, d2, rfl, SC, B⟩; have RB15 := Lib.hid (RB14.out.trans (B.mono RB14.out.size)); have RC_15 := Lib.hid (RC_14.out.below B (Nat.le_refl _)); have RM_15 := Lib.hid SC; clear B SC)
          | (go_at_call 93; have := RB13; clear this; refine (diff_Cross U3 V3 U1 V1 u3 v3 u1 v1 _ _ _ _ _ (FX3_13.out.below RB13.out (Nat.le_refl _)) (FY3_13.out.below RB13.out (Nat.le_refl _)) (FX1_13.out.below RB13.out (Nat.le_refl _)) (FY1_13.out.below RB13.out (Nat.le_refl _)) (fit_sub hp.e hp.g) (fit_sub hp.f hp.h) (fit_sub hp.a hp.g) (fit_sub hp.b hp.h)).mono ?_; rintro e w14 ⟨⟨C1, d1, rfl, SC⟩, B⟩; have RB14 := Lib.hid (RB13.out.trans (B.mono RB13.out.size)); have RC_14 := Lib.hid (show Sl _ .u64 C1 4 d1 (lmb (mnr cx cy ax ay dx dy)) from SC); clear B SC))
    have FW_15 := Lib.hid (FW_13.out.below RB15.out (Nat.le_refl _))
    have FX1_15 := Lib.hid (FX1_13.out.below RB15.out (Nat.le_refl _))
    have FY1_15 := Lib.hid (FY1_13.out.below RB15.out (Nat.le_refl _))
    have FX2_15 := Lib.hid (FX2_13.out.below RB15.out (Nat.le_refl _))
    have FY2_15 := Lib.hid (FY2_13.out.below RB15.out (Nat.le_refl _))
    have FX3_15 := Lib.hid (FX3_13.out.below RB15.out (Nat.le_refl _))
    have FY3_15 := Lib.hid (FY3_13.out.below RB15.out (Nat.le_refl _))
    have FZ_15 := Lib.hid (FZ_13.out.below RB15.out (Nat.le_refl _))
    have HB15 := Lib.hid (HB13.out.trans (RB15.out.mono HB13.out.size))
    clear HB13 FW_13 FX1_13 FY1_13 FX2_13 FY2_13 FX3_13 FY3_13 FZ_13
    have vW0 := FW_15.out.cell 0 (v := .slice U1 2 u1) rfl
    have vW1 := FW_15.out.cell 1 (v := .slice V1 2 v1) rfl
    have vW2 := FW_15.out.cell 2 (v := .slice U2 2 u2) rfl
    have vW3 := FW_15.out.cell 3 (v := .slice V2 2 v2) rfl
    have vW4 := FW_15.out.cell 4 (v := .slice U3 2 u3) rfl
    have vW5 := FW_15.out.cell 5 (v := .slice V3 2 v3) rfl
    go_wp2_with fail
    refine (diff_Norm U2 V2 u2 v2 _ _ _ FX2_15.out FY2_15.out (fit_sub hp.c hp.g) (fit_sub hp.d hp.h)).mono ?_
    rintro e w16 ⟨⟨L1, l1, rfl, SL0⟩, B⟩
    clear vW0 vW1 vW2 vW3 vW4 vW5
    have SL := (show Sl _ .u64 L1 4 l1 (lmb (nrm bx b_ dx dy)) from SL0); clear SL0
    have HB16 := Lib.hid (HB15.out.trans (B.mono HB15.out.size))
    have FW_16 := Lib.hid (FW_15.out.below B (Nat.le_refl _))
    have FX1_16 := Lib.hid (FX1_15.out.below B (Nat.le_refl _))
    have FY1_16 := Lib.hid (FY1_15.out.below B (Nat.le_refl _))
    have FX2_16 := Lib.hid (FX2_15.out.below B (Nat.le_refl _))
    have FY2_16 := Lib.hid (FY2_15.out.below B (Nat.le_refl _))
    have FX3_16 := Lib.hid (FX3_15.out.below B (Nat.le_refl _))
    have FY3_16 := Lib.hid (FY3_15.out.below B (Nat.le_refl _))
    have FZ_16 := Lib.hid (FZ_15.out.below B (Nat.le_refl _))
    have FM_16 := Lib.hid (RM_15.out.below B (Nat.le_refl _))
    have FL_16 := Lib.hid SL
    clear B SL HB15 FW_15 FX1_15 FY1_15 FX2_15 FY2_15 FX3_15 FY3_15 FZ_15 RM_15
    go_wp2_with fail
    refine (limb_Extend L1 4 l1 (nrm bx b_ dx dy) 3 3 rfl _ FL_16.out (fit_mono (nrm_fit hp.c hp.d hp.g hp.h) (by omega)) rfl rfl).mono ?_
    rintro e w17 ⟨L2, l2, rfl, SL, B⟩
    have HB17 := Lib.hid (HB16.out.trans (B.mono HB16.out.size))
    have FW_17 := Lib.hid (FW_16.out.below B (Nat.le_refl _))
    have FX1_17 := Lib.hid (FX1_16.out.below B (Nat.le_refl _))
    have FY1_17 := Lib.hid (FY1_16.out.below B (Nat.le_refl _))
    have FX2_17 := Lib.hid (FX2_16.out.below B (Nat.le_refl _))
    have FY2_17 := Lib.hid (FY2_16.out.below B (Nat.le_refl _))
    have FX3_17 := Lib.hid (FX3_16.out.below B (Nat.le_refl _))
    have FY3_17 := Lib.hid (FY3_16.out.below B (Nat.le_refl _))
    have FZ_17 := Lib.hid (FZ_16.out.below B (Nat.le_refl _))
    have FM_17 := Lib.hid (FM_16.out.below B (Nat.le_refl _))
    have FL_17 := Lib.hid (FL_16.out.below B (Nat.le_refl _))
    have FL_17 := Lib.hid SL
    clear B SL HB16 FW_16 FX1_16 FY1_16 FX2_16 FY2_16 FX3_16 FY3_16 FZ_16 FM_16 FL_16
    go_wp2_with fail
    refine (limb_Mul L2 C2 3 l2 3 d2 (nrm bx b_ dx dy) (mnr cx cy ax ay dx dy) _ FL_17.out FM_17.out (nrm_fit hp.c hp.d hp.g hp.h) (mnr_fit hp.e hp.f hp.a hp.b hp.g hp.h) rfl rfl (by omega)).mono ?_
    rintro e w18 ⟨K1, q1, rfl, SK0, B⟩
    have SK := (show Sl _ .u64 K1 6 q1 (lmb (nrm bx b_ dx dy * mnr cx cy ax ay dx dy)) from SK0); clear SK0
    have HB18 := Lib.hid (HB17.out.trans (B.mono HB17.out.size))
    have FW_18 := Lib.hid (FW_17.out.below B (Nat.le_refl _))
    have FX1_18 := Lib.hid (FX1_17.out.below B (Nat.le_refl _))
    have FY1_18 := Lib.hid (FY1_17.out.below B (Nat.le_refl _))
    have FX2_18 := Lib.hid (FX2_17.out.below B (Nat.le_refl _))
    have FY2_18 := Lib.hid (FY2_17.out.below B (Nat.le_refl _))
    have FX3_18 := Lib.hid (FX3_17.out.below B (Nat.le_refl _))
    have FY3_18 := Lib.hid (FY3_17.out.below B (Nat.le_refl _))
    have FZ_18 := Lib.hid (FZ_17.out.below B (Nat.le_refl _))
    have FM_18 := Lib.hid (FM_17.out.below B (Nat.le_refl _))
    have FL_18 := Lib.hid (FL_17.out.below B (Nat.le_refl _))
    have FK_18 := Lib.hid SK
    clear B SK HB17 FW_17 FX1_17 FY1_17 FX2_17 FY2_17 FX3_17 FY3_17 FZ_17 FM_17 FL_17
    go_wp2_with fail
    refine (limb_Extend K1 6 q1 (nrm bx b_ dx dy * mnr cx cy ax ay dx dy) 5 5 rfl _ FK_18.out (mul_fit6 (nrm_fit hp.c hp.d hp.g hp.h) (mnr_fit hp.e hp.f hp.a hp.b hp.g hp.h)) rfl rfl).mono ?_
    rintro e w19 ⟨K2, q2, rfl, SK, B⟩
    have HB19 := Lib.hid (HB18.out.trans (B.mono HB18.out.size))
    have FW_19 := Lib.hid (FW_18.out.below B (Nat.le_refl _))
    have FX1_19 := Lib.hid (FX1_18.out.below B (Nat.le_refl _))
    have FY1_19 := Lib.hid (FY1_18.out.below B (Nat.le_refl _))
    have FX2_19 := Lib.hid (FX2_18.out.below B (Nat.le_refl _))
    have FY2_19 := Lib.hid (FY2_18.out.below B (Nat.le_refl _))
    have FX3_19 := Lib.hid (FX3_18.out.below B (Nat.le_refl _))
    have FY3_19 := Lib.hid (FY3_18.out.below B (Nat.le_refl _))
    have FZ_19 := Lib.hid (FZ_18.out.below B (Nat.le_refl _))
    have FK_19 := Lib.hid (FK_18.out.below B (Nat.le_refl _))
    have FK_19 := Lib.hid SK
    clear B SK HB18 FW_18 FX1_18 FY1_18 FX2_18 FY2_18 FX3_18 FY3_18 FZ_18 FK_18
    go_wp2_with fail
    refine (limb_Add Z1 K2 5 z1 q2 (0 + nrm ax ay dx dy * mnr bx b_ cx cy dx dy) (nrm bx b_ dx dy * mnr cx cy ax ay dx dy) _ FZ_19.out FK_19.out rfl).mono ?_
    rintro e w20 ⟨Z2, z2, rfl, SZ, B⟩
    have HB20 := Lib.hid (HB19.out.trans (B.mono HB19.out.size))
    have FW_20 := Lib.hid (FW_19.out.below B (Nat.le_refl _))
    have FX1_20 := Lib.hid (FX1_19.out.below B (Nat.le_refl _))
    have FY1_20 := Lib.hid (FY1_19.out.below B (Nat.le_refl _))
    have FX2_20 := Lib.hid (FX2_19.out.below B (Nat.le_refl _))
    have FY2_20 := Lib.hid (FY2_19.out.below B (Nat.le_refl _))
    have FX3_20 := Lib.hid (FX3_19.out.below B (Nat.le_refl _))
    have FY3_20 := Lib.hid (FY3_19.out.below B (Nat.le_refl _))
    have FZ_20 := Lib.hid (FZ_19.out.below B (Nat.le_refl _))
    have FK_20 := Lib.hid (FK_19.out.below B (Nat.le_refl _))
    have FZ_20 := Lib.hid SZ
    clear B SZ HB19 FW_19 FX1_19 FY1_19 FX2_19 FY2_19 FX3_19 FY3_19 FZ_19 FK_19
    go_wp2_with fail
    rw [rounds_succ]
    go_wp2_with fail
    have RB20 := Lib.hid (below_drew0 w20)
    have QS20 := Lib.hid (show w20.cell? ⟨b9, 0, none⟩ = some (.slice U1 2 u1) ∧ w20.cell? ⟨b9, 1, none⟩ = some (.slice V1 2 v1) ∧ w20.cell? ⟨b9, 2, none⟩ = some (.slice U2 2 u2) ∧ w20.cell? ⟨b9, 3, none⟩ = some (.slice V2 2 v2) ∧ w20.cell? ⟨b9, 4, none⟩ = some (.slice U3 2 u3) ∧ w20.cell? ⟨b9, 5, none⟩ = some (.slice V3 2 v3) from ⟨FW_20.out.cell 0 (v := .slice U1 2 u1) rfl, FW_20.out.cell 1 (v := .slice V1 2 v1) rfl, FW_20.out.cell 2 (v := .slice U2 2 u2) rfl, FW_20.out.cell 3 (v := .slice V2 2 v2) rfl, FW_20.out.cell 4 (v := .slice U3 2 u3) rfl, FW_20.out.cell 5 (v := .slice V3 2 v3) rfl⟩)
    have QF20 := Lib.hid (show ∀ w', Below w20.heap.size w20 w' → w'.cell? ⟨b9, 0, none⟩ = some (.slice U1 2 u1) ∧ w'.cell? ⟨b9, 1, none⟩ = some (.slice V1 2 v1) ∧ w'.cell? ⟨b9, 2, none⟩ = some (.slice U2 2 u2) ∧ w'.cell? ⟨b9, 3, none⟩ = some (.slice V2 2 v2) ∧ w'.cell? ⟨b9, 4, none⟩ = some (.slice U3 2 u3) ∧ w'.cell? ⟨b9, 5, none⟩ = some (.slice V3 2 v3) from fun w' hb => ⟨(FW_20.out.below hb (Nat.le_refl _)).cell 0 (v := .slice U1 2 u1) rfl, (FW_20.out.below hb (Nat.le_refl _)).cell 1 (v := .slice V1 2 v1) rfl, (FW_20.out.below hb (Nat.le_refl _)).cell 2 (v := .slice U2 2 u2) rfl, (FW_20.out.below hb (Nat.le_refl _)).cell 3 (v := .slice V2 2 v2) rfl, (FW_20.out.below hb (Nat.le_refl _)).cell 4 (v := .slice U3 2 u3) rfl, (FW_20.out.below hb (Nat.le_refl _)).cell 5 (v := .slice V3 2 v3) rfl⟩)
    go_region_held3 (fun w' => w'.cell? ⟨b9, 0, none⟩ = some (.slice U1 2 u1) ∧ w'.cell? ⟨b9, 1, none⟩ = some (.slice V1 2 v1) ∧ w'.cell? ⟨b9, 2, none⟩ = some (.slice U2 2 u2) ∧ w'.cell? ⟨b9, 3, none⟩ = some (.slice V2 2 v2) ∧ w'.cell? ⟨b9, 4, none⟩ = some (.slice U3 2 u3) ∧ w'.cell? ⟨b9, 5, none⟩ = some (.slice V3 2 v3)) (first | with_reducible exact QF20.out _ RB22.out | with_reducible exact QF20.out _ RB21.out | with_reducible exact QS20.out | with_reducible exact QF20.out _ RB20.out) (first
          | (go_at_call 92; have := RB21; clear this; refine (limb_Extend C1 4 d1 (mnr ax ay bx b_ dx dy) 3 3 rfl _ RC_21.out (fit_mono (mnr_fit hp.a hp.b hp.c hp.d hp.g hp.h) (by omega)) rfl rfl).mono ?_; rintro e w22 ⟨C2, d2, rfl, SC, B⟩; have RB22 := Lib.hid (RB21.out.trans (B.mono RB21.out.size)); have RC_22 := Lib.hid (RC_21.out.below B (Nat.le_refl _)); have RM_22 := Lib.hid SC; clear B SC)
          | (go_at_call 93; have := RB20; clear this; refine (diff_Cross U1 V1 U2 V2 u1 v1 u2 v2 _ _ _ _ _ (FX1_20.out.below RB20.out (Nat.le_refl _)) (FY1_20.out.below RB20.out (Nat.le_refl _)) (FX2_20.out.below RB20.out (Nat.le_refl _)) (FY2_20.out.below RB20.out (Nat.le_refl _)) (fit_sub hp.a hp.g) (fit_sub hp.b hp.h) (fit_sub hp.c hp.g) (fit_sub hp.d hp.h)).mono ?_; rintro e w21 ⟨⟨C1, d1, rfl, SC⟩, B⟩; have RB21 := Lib.hid (RB20.out.trans (B.mono RB20.out.size)); have RC_21 := Lib.hid (show Sl _ .u64 C1 4 d1 (lmb (mnr ax ay bx b_ dx dy)) from SC); clear B SC))
    have FW_22 := Lib.hid (FW_20.out.below RB22.out (Nat.le_refl _))
    have FX1_22 := Lib.hid (FX1_20.out.below RB22.out (Nat.le_refl _))
    have FY1_22 := Lib.hid (FY1_20.out.below RB22.out (Nat.le_refl _))
    have FX2_22 := Lib.hid (FX2_20.out.below RB22.out (Nat.le_refl _))
    have FY2_22 := Lib.hid (FY2_20.out.below RB22.out (Nat.le_refl _))
    have FX3_22 := Lib.hid (FX3_20.out.below RB22.out (Nat.le_refl _))
    have FY3_22 := Lib.hid (FY3_20.out.below RB22.out (Nat.le_refl _))
    have FZ_22 := Lib.hid (FZ_20.out.below RB22.out (Nat.le_refl _))
    have HB22 := Lib.hid (HB20.out.trans (RB22.out.mono HB20.out.size))
    clear HB20 FW_20 FX1_20 FY1_20 FX2_20 FY2_20 FX3_20 FY3_20 FZ_20
    have vW0 := FW_22.out.cell 0 (v := .slice U1 2 u1) rfl
    have vW1 := FW_22.out.cell 1 (v := .slice V1 2 v1) rfl
    have vW2 := FW_22.out.cell 2 (v := .slice U2 2 u2) rfl
    have vW3 := FW_22.out.cell 3 (v := .slice V2 2 v2) rfl
    have vW4 := FW_22.out.cell 4 (v := .slice U3 2 u3) rfl
    have vW5 := FW_22.out.cell 5 (v := .slice V3 2 v3) rfl
    go_wp2_with fail
    refine (diff_Norm U3 V3 u3 v3 _ _ _ FX3_22.out FY3_22.out (fit_sub hp.e hp.g) (fit_sub hp.f hp.h)).mono ?_
    rintro e w23 ⟨⟨L1, l1, rfl, SL0⟩, B⟩
    clear vW0 vW1 vW2 vW3 vW4 vW5
    have SL := (show Sl _ .u64 L1 4 l1 (lmb (nrm cx cy dx dy)) from SL0); clear SL0
    have HB23 := Lib.hid (HB22.out.trans (B.mono HB22.out.size))
    have FW_23 := Lib.hid (FW_22.out.below B (Nat.le_refl _))
    have FX1_23 := Lib.hid (FX1_22.out.below B (Nat.le_refl _))
    have FY1_23 := Lib.hid (FY1_22.out.below B (Nat.le_refl _))
    have FX2_23 := Lib.hid (FX2_22.out.below B (Nat.le_refl _))
    have FY2_23 := Lib.hid (FY2_22.out.below B (Nat.le_refl _))
    have FX3_23 := Lib.hid (FX3_22.out.below B (Nat.le_refl _))
    have FY3_23 := Lib.hid (FY3_22.out.below B (Nat.le_refl _))
    have FZ_23 := Lib.hid (FZ_22.out.below B (Nat.le_refl _))
    have FM_23 := Lib.hid (RM_22.out.below B (Nat.le_refl _))
    have FL_23 := Lib.hid SL
    clear B SL HB22 FW_22 FX1_22 FY1_22 FX2_22 FY2_22 FX3_22 FY3_22 FZ_22 RM_22
    go_wp2_with fail
    refine (limb_Extend L1 4 l1 (nrm cx cy dx dy) 3 3 rfl _ FL_23.out (fit_mono (nrm_fit hp.e hp.f hp.g hp.h) (by omega)) rfl rfl).mono ?_
    rintro e w24 ⟨L2, l2, rfl, SL, B⟩
    have HB24 := Lib.hid (HB23.out.trans (B.mono HB23.out.size))
    have FW_24 := Lib.hid (FW_23.out.below B (Nat.le_refl _))
    have FX1_24 := Lib.hid (FX1_23.out.below B (Nat.le_refl _))
    have FY1_24 := Lib.hid (FY1_23.out.below B (Nat.le_refl _))
    have FX2_24 := Lib.hid (FX2_23.out.below B (Nat.le_refl _))
    have FY2_24 := Lib.hid (FY2_23.out.below B (Nat.le_refl _))
    have FX3_24 := Lib.hid (FX3_23.out.below B (Nat.le_refl _))
    have FY3_24 := Lib.hid (FY3_23.out.below B (Nat.le_refl _))
    have FZ_24 := Lib.hid (FZ_23.out.below B (Nat.le_refl _))
    have FM_24 := Lib.hid (FM_23.out.below B (Nat.le_refl _))
    have FL_24 := Lib.hid (FL_23.out.below B (Nat.le_refl _))
    have FL_24 := Lib.hid SL
    clear B SL HB23 FW_23 FX1_23 FY1_23 FX2_23 FY2_23 FX3_23 FY3_23 FZ_23 FM_23 FL_23
    go_wp2_with fail
    refine (limb_Mul L2 C2 3 l2 3 d2 (nrm cx cy dx dy) (mnr ax ay bx b_ dx dy) _ FL_24.out FM_24.out (nrm_fit hp.e hp.f hp.g hp.h) (mnr_fit hp.a hp.b hp.c hp.d hp.g hp.h) rfl rfl (by omega)).mono ?_
    rintro e w25 ⟨K1, q1, rfl, SK0, B⟩
    have SK := (show Sl _ .u64 K1 6 q1 (lmb (nrm cx cy dx dy * mnr ax ay bx b_ dx dy)) from SK0); clear SK0
    have HB25 := Lib.hid (HB24.out.trans (B.mono HB24.out.size))
    have FW_25 := Lib.hid (FW_24.out.below B (Nat.le_refl _))
    have FX1_25 := Lib.hid (FX1_24.out.below B (Nat.le_refl _))
    have FY1_25 := Lib.hid (FY1_24.out.below B (Nat.le_refl _))
    have FX2_25 := Lib.hid (FX2_24.out.below B (Nat.le_refl _))
    have FY2_25 := Lib.hid (FY2_24.out.below B (Nat.le_refl _))
    have FX3_25 := Lib.hid (FX3_24.out.below B (Nat.le_refl _))
    have FY3_25 := Lib.hid (FY3_24.out.below B (Nat.le_refl _))
    have FZ_25 := Lib.hid (FZ_24.out.below B (Nat.le_refl _))
    have FM_25 := Lib.hid (FM_24.out.below B (Nat.le_refl _))
    have FL_25 := Lib.hid (FL_24.out.below B (Nat.le_refl _))
    have FK_25 := Lib.hid SK
    clear B SK HB24 FW_24 FX1_24 FY1_24 FX2_24 FY2_24 FX3_24 FY3_24 FZ_24 FM_24 FL_24
    go_wp2_with fail
    refine (limb_Extend K1 6 q1 (nrm cx cy dx dy * mnr ax ay bx b_ dx dy) 5 5 rfl _ FK_25.out (mul_fit6 (nrm_fit hp.e hp.f hp.g hp.h) (mnr_fit hp.a hp.b hp.c hp.d hp.g hp.h)) rfl rfl).mono ?_
    rintro e w26 ⟨K2, q2, rfl, SK, B⟩
    have HB26 := Lib.hid (HB25.out.trans (B.mono HB25.out.size))
    have FW_26 := Lib.hid (FW_25.out.below B (Nat.le_refl _))
    have FX1_26 := Lib.hid (FX1_25.out.below B (Nat.le_refl _))
    have FY1_26 := Lib.hid (FY1_25.out.below B (Nat.le_refl _))
    have FX2_26 := Lib.hid (FX2_25.out.below B (Nat.le_refl _))
    have FY2_26 := Lib.hid (FY2_25.out.below B (Nat.le_refl _))
    have FX3_26 := Lib.hid (FX3_25.out.below B (Nat.le_refl _))
    have FY3_26 := Lib.hid (FY3_25.out.below B (Nat.le_refl _))
    have FZ_26 := Lib.hid (FZ_25.out.below B (Nat.le_refl _))
    have FK_26 := Lib.hid (FK_25.out.below B (Nat.le_refl _))
    have FK_26 := Lib.hid SK
    clear B SK HB25 FW_25 FX1_25 FY1_25 FX2_25 FY2_25 FX3_25 FY3_25 FZ_25 FK_25
    go_wp2_with fail
    refine (limb_Add Z2 K2 5 z2 q2 (0 + nrm ax ay dx dy * mnr bx b_ cx cy dx dy + nrm bx b_ dx dy * mnr cx cy ax ay dx dy) (nrm cx cy dx dy * mnr ax ay bx b_ dx dy) _ FZ_26.out FK_26.out rfl).mono ?_
    rintro e w27 ⟨Z3, z3, rfl, SZ, B⟩
    have HB27 := Lib.hid (HB26.out.trans (B.mono HB26.out.size))
    have FW_27 := Lib.hid (FW_26.out.below B (Nat.le_refl _))
    have FX1_27 := Lib.hid (FX1_26.out.below B (Nat.le_refl _))
    have FY1_27 := Lib.hid (FY1_26.out.below B (Nat.le_refl _))
    have FX2_27 := Lib.hid (FX2_26.out.below B (Nat.le_refl _))
    have FY2_27 := Lib.hid (FY2_26.out.below B (Nat.le_refl _))
    have FX3_27 := Lib.hid (FX3_26.out.below B (Nat.le_refl _))
    have FY3_27 := Lib.hid (FY3_26.out.below B (Nat.le_refl _))
    have FZ_27 := Lib.hid (FZ_26.out.below B (Nat.le_refl _))
    have FK_27 := Lib.hid (FK_26.out.below B (Nat.le_refl _))
    have FZ_27 := Lib.hid SZ
    clear B SZ HB26 FW_26 FX1_26 FY1_26 FX2_26 FY2_26 FX3_26 FY3_26 FZ_26 FK_26
    go_wp2_with fail
    rw [rounds_succ]
    go_wp2_with fail
    go_ret
    have ez : 0 + nrm ax ay dx dy * mnr bx b_ cx cy dx dy + nrm bx b_ dx dy * mnr cx cy ax ay dx dy + nrm cx cy dx dy * mnr ax ay bx b_ dx dy = circ ax ay bx b_ cx cy dx dy := by unfold circ; omega
    exact ⟨⟨_, _, rfl, by rw [← ez]; exact FZ_27.out⟩, HB27.out⟩

set_option maxHeartbeats 1000000 in
theorem circle_Sign (ax ay bx b_ cx cy dx dy : Int) (hp : P4 ax ay bx b_ cx cy dx dy) (w : World) (hT : TabM w) :
    Calls Tryd.prog 81 #[.agg #[.int .i64 ax, .int .i64 ay], .agg #[.int .i64 bx, .int .i64 b_], .agg #[.int .i64 cx, .int .i64 cy], .agg #[.int .i64 dx, .int .i64 dy]] w fun e w' => e = .returned (.int .i64 (sg (circ ax ay bx b_ cx cy dx dy))) ∧ Below w.heap.size w w' := by
  have HB0 := Lib.hid (Below.refl w.heap.size w)
  have FT := Lib.hid hT
  clear hT
  have HF := Lib.hid hp.fit
  go_enter Tryd.func81, Tryd.ntmps81
  go_wp2_with fail
  refine (circle_Value _ _ _ _ _ _ _ _ hp _).mono ?_
  rintro e w1 ⟨⟨U1, u1, rfl, S1⟩, B⟩
  have HB1 := Lib.hid (((((HB0.out.alloc HB0.out.size _).alloc (HB0.out.alloc HB0.out.size _).size _).alloc ((HB0.out.alloc HB0.out.size _).alloc (HB0.out.alloc HB0.out.size _).size _).size _).alloc (((HB0.out.alloc HB0.out.size _).alloc (HB0.out.alloc HB0.out.size _).size _).alloc ((HB0.out.alloc HB0.out.size _).alloc (HB0.out.alloc HB0.out.size _).size _).size _).size _).trans (B.mono ((((HB0.out.alloc HB0.out.size _).alloc (HB0.out.alloc HB0.out.size _).size _).alloc ((HB0.out.alloc HB0.out.size _).alloc (HB0.out.alloc HB0.out.size _).size _).size _).alloc (((HB0.out.alloc HB0.out.size _).alloc (HB0.out.alloc HB0.out.size _).size _).alloc ((HB0.out.alloc HB0.out.size _).alloc (HB0.out.alloc HB0.out.size _).size _).size _).size _).size))
  have FT_1 := Lib.hid (((((FT.out.alloc _).alloc _).alloc _).alloc _).below B (Nat.le_refl _))
  have FX_1 := Lib.hid S1
  clear B S1 HB0 FT
  go_wp2_with fail
  refine (limb_Sign _ _ _ _ _ FX_1.out HF.out rfl FT_1.out).mono ?_
  rintro e w2 ⟨rfl, B⟩
  have HB2 := Lib.hid (HB1.out.trans (B.mono HB1.out.size))
  have FT_2 := Lib.hid (FT_1.out.below B (Nat.le_refl _))
  have FX_2 := Lib.hid (FX_1.out.below B (Nat.le_refl _))
  clear B  HB1 FT_1 FX_1
  go_wp2_with fail
  go_ret
  exact ⟨rfl, HB2.out⟩

theorem sg_mul_range (x y : Int) : -1 ≤ sg x * sg y ∧ sg x * sg y ≤ 1 := by
  have h := abs_mul_le (a := 1) (b := 1) (sign_range x) (sign_range y)
  exact h
theorem wrap_sg2 (x y : Int) : IntKind.i64.wrap (sg x * sg y) = sg x * sg y := by have := sg_mul_range x y; rw [IntKind.wrap_i64]; omega
set_option maxHeartbeats 2000000 in
theorem circle_Side (ax ay bx b_ cx cy dx dy : Int) (hp : P4 ax ay bx b_ cx cy dx dy) (w : World) (hT : TabM w) :
    Calls Tryd.prog 65 #[.agg #[.int .i64 ax, .int .i64 ay], .agg #[.int .i64 bx, .int .i64 b_], .agg #[.int .i64 cx, .int .i64 cy], .agg #[.int .i64 dx, .int .i64 dy]] w fun e w' => e = .returned (.int .i64 (sg (circ ax ay bx b_ cx cy dx dy) * sg (det ax ay bx b_ cx cy))) ∧ Below w.heap.size w w' := by
  have HB0 := Lib.hid (Below.refl w.heap.size w)
  have FT := Lib.hid hT
  clear hT
  have r1 := sign_range (circ ax ay bx b_ cx cy dx dy); have r2 := sign_range (det ax ay bx b_ cx cy)
  have hw := wrap_sg2 (circ ax ay bx b_ cx cy dx dy) (det ax ay bx b_ cx cy)
  go_enter Tryd.func65, Tryd.ntmps65
  go_wp2_with fail
  have B : Below w.heap.size w ((((w.alloc (.cells #[.int .i64 ax, .int .i64 ay] 28)).alloc (.cells #[.int .i64 bx, .int .i64 b_] 28)).alloc (.cells #[.int .i64 cx, .int .i64 cy] 28)).alloc (.cells #[.int .i64 dx, .int .i64 dy] 28)) := ((((HB0.out.alloc HB0.out.size _).alloc (HB0.out.alloc HB0.out.size _).size _).alloc ((HB0.out.alloc HB0.out.size _).alloc (HB0.out.alloc HB0.out.size _).size _).size _).alloc (((HB0.out.alloc HB0.out.size _).alloc (HB0.out.alloc HB0.out.size _).size _).alloc ((HB0.out.alloc HB0.out.size _).alloc (HB0.out.alloc HB0.out.size _).size _).size _).size _)
  have C : Below w.heap.size w ((((w.alloc (.cells #[.int .i64 ax, .int .i64 ay] 28)).alloc (.cells #[.int .i64 bx, .int .i64 b_] 28)).alloc (.cells #[.int .i64 cx, .int .i64 cy] 28)).alloc (.cells #[.int .i64 dx, .int .i64 dy] 28)) := (((((Below.refl w.heap.size w).alloc (Nat.le_refl _) _).alloc (by simp; try omega) _).alloc (by simp; try omega) _).alloc (by simp; try omega) _)
  have X0 : Bx ((((w.alloc (.cells #[.int .i64 ax, .int .i64 ay] 28)).alloc (.cells #[.int .i64 bx, .int .i64 b_] 28)).alloc (.cells #[.int .i64 cx, .int .i64 cy] 28)).alloc (.cells #[.int .i64 dx, .int .i64 dy] 28)) (w.heap.size) #[.int .i64 ax, .int .i64 ay] 28 := by simpa using ((((Bx.new w #[.int .i64 ax, .int .i64 ay] 28).alloc _).alloc _).alloc _)
  have X1 : Bx ((((w.alloc (.cells #[.int .i64 ax, .int .i64 ay] 28)).alloc (.cells #[.int .i64 bx, .int .i64 b_] 28)).alloc (.cells #[.int .i64 cx, .int .i64 cy] 28)).alloc (.cells #[.int .i64 dx, .int .i64 dy] 28)) (w.heap.size + 1) #[.int .i64 bx, .int .i64 b_] 28 := by simpa using (((Bx.new (w.alloc (.cells #[.int .i64 ax, .int .i64 ay] 28)) #[.int .i64 bx, .int .i64 b_] 28).alloc _).alloc _)
  have X2 : Bx ((((w.alloc (.cells #[.int .i64 ax, .int .i64 ay] 28)).alloc (.cells #[.int .i64 bx, .int .i64 b_] 28)).alloc (.cells #[.int .i64 cx, .int .i64 cy] 28)).alloc (.cells #[.int .i64 dx, .int .i64 dy] 28)) (w.heap.size + 1 + 1) #[.int .i64 cx, .int .i64 cy] 28 := by simpa using ((Bx.new ((w.alloc (.cells #[.int .i64 ax, .int .i64 ay] 28)).alloc (.cells #[.int .i64 bx, .int .i64 b_] 28)) #[.int .i64 cx, .int .i64 cy] 28).alloc _)
  have X3 : Bx ((((w.alloc (.cells #[.int .i64 ax, .int .i64 ay] 28)).alloc (.cells #[.int .i64 bx, .int .i64 b_] 28)).alloc (.cells #[.int .i64 cx, .int .i64 cy] 28)).alloc (.cells #[.int .i64 dx, .int .i64 dy] 28)) (w.heap.size + 1 + 1 + 1) #[.int .i64 dx, .int .i64 dy] 28 := by simpa using (Bx.new (((w.alloc (.cells #[.int .i64 ax, .int .i64 ay] 28)).alloc (.cells #[.int .i64 bx, .int .i64 b_] 28)).alloc (.cells #[.int .i64 cx, .int .i64 cy] 28)) #[.int .i64 dx, .int .i64 dy] 28)
  have FT_1 := Lib.hid (FT.out.below C (Nat.le_refl _))
  have HB1 := Lib.hid B
  have FP_1 := Lib.hid X0
  have FQ_1 := Lib.hid X1
  have FR_1 := Lib.hid X2
  have FV_1 := Lib.hid X3
  clear B C X0 X1 X2 X3 HB0 FT
  generalize ((((w.alloc (.cells #[.int .i64 ax, .int .i64 ay] 28)).alloc (.cells #[.int .i64 bx, .int .i64 b_] 28)).alloc (.cells #[.int .i64 cx, .int .i64 cy] 28)).alloc (.cells #[.int .i64 dx, .int .i64 dy] 28)) = w1 at *
  have RB1 := Lib.hid (below_drew0 w1)
  have QS1 := Lib.hid (show w1.cell? ⟨w.heap.size, 0, none⟩ = some (.int .i64 ax) ∧ w1.cell? ⟨w.heap.size, 1, none⟩ = some (.int .i64 ay) ∧ w1.cell? ⟨w.heap.size + 1, 0, none⟩ = some (.int .i64 bx) ∧ w1.cell? ⟨w.heap.size + 1, 1, none⟩ = some (.int .i64 b_) ∧ w1.cell? ⟨w.heap.size + 1 + 1, 0, none⟩ = some (.int .i64 cx) ∧ w1.cell? ⟨w.heap.size + 1 + 1, 1, none⟩ = some (.int .i64 cy) ∧ w1.cell? ⟨w.heap.size + 1 + 1 + 1, 0, none⟩ = some (.int .i64 dx) ∧ w1.cell? ⟨w.heap.size + 1 + 1 + 1, 1, none⟩ = some (.int .i64 dy) from ⟨FP_1.out.cell 0 (v := .int .i64 ax) rfl, FP_1.out.cell 1 (v := .int .i64 ay) rfl, FQ_1.out.cell 0 (v := .int .i64 bx) rfl, FQ_1.out.cell 1 (v := .int .i64 b_) rfl, FR_1.out.cell 0 (v := .int .i64 cx) rfl, FR_1.out.cell 1 (v := .int .i64 cy) rfl, FV_1.out.cell 0 (v := .int .i64 dx) rfl, FV_1.out.cell 1 (v := .int .i64 dy) rfl⟩)
  have QF1 := Lib.hid (show ∀ w', Below w1.heap.size w1 w' → w'.cell? ⟨w.heap.size, 0, none⟩ = some (.int .i64 ax) ∧ w'.cell? ⟨w.heap.size, 1, none⟩ = some (.int .i64 ay) ∧ w'.cell? ⟨w.heap.size + 1, 0, none⟩ = some (.int .i64 bx) ∧ w'.cell? ⟨w.heap.size + 1, 1, none⟩ = some (.int .i64 b_) ∧ w'.cell? ⟨w.heap.size + 1 + 1, 0, none⟩ = some (.int .i64 cx) ∧ w'.cell? ⟨w.heap.size + 1 + 1, 1, none⟩ = some (.int .i64 cy) ∧ w'.cell? ⟨w.heap.size + 1 + 1 + 1, 0, none⟩ = some (.int .i64 dx) ∧ w'.cell? ⟨w.heap.size + 1 + 1 + 1, 1, none⟩ = some (.int .i64 dy) from fun w' hb => ⟨(FP_1.out.below hb (Nat.le_refl _)).cell 0 (v := .int .i64 ax) rfl, (FP_1.out.below hb (Nat.le_refl _)).cell 1 (v := .int .i64 ay) rfl, (FQ_1.out.below hb (Nat.le_refl _)).cell 0 (v := .int .i64 bx) rfl, (FQ_1.out.below hb (Nat.le_refl _)).cell 1 (v := .int .i64 b_) rfl, (FR_1.out.below hb (Nat.le_refl _)).cell 0 (v := .int .i64 cx) rfl, (FR_1.out.below hb (Nat.le_refl _)).cell 1 (v := .int .i64 cy) rfl, (FV_1.out.below hb (Nat.le_refl _)).cell 0 (v := .int .i64 dx) rfl, (FV_1.out.below hb (Nat.le_refl _)).cell 1 (v := .int .i64 dy) rfl⟩)
  go_region_held3 (fun w' => w'.cell? ⟨w.heap.size, 0, none⟩ = some (.int .i64 ax) ∧ w'.cell? ⟨w.heap.size, 1, none⟩ = some (.int .i64 ay) ∧ w'.cell? ⟨w.heap.size + 1, 0, none⟩ = some (.int .i64 bx) ∧ w'.cell? ⟨w.heap.size + 1, 1, none⟩ = some (.int .i64 b_) ∧ w'.cell? ⟨w.heap.size + 1 + 1, 0, none⟩ = some (.int .i64 cx) ∧ w'.cell? ⟨w.heap.size + 1 + 1, 1, none⟩ = some (.int .i64 cy) ∧ w'.cell? ⟨w.heap.size + 1 + 1 + 1, 0, none⟩ = some (.int .i64 dx) ∧ w'.cell? ⟨w.heap.size + 1 + 1 + 1, 1, none⟩ = some (.int .i64 dy)) (first | with_reducible exact QF1.out _ RB3.out | with_reducible exact QF1.out _ RB2.out | with_reducible exact QS1.out | with_reducible exact QF1.out _ RB1.out) (first
      | (go_at_call 64; have := RB2; clear this; refine (orient_Sign _ _ _ _ _ _ ⟨hp.a, hp.b, hp.c, hp.d, hp.e, hp.f⟩ _ (FT_1.out.below RB2.out (Nat.le_refl _))).mono ?_; rintro e w3 ⟨rfl, B⟩; have RB3 := Lib.hid (RB2.out.trans (B.mono RB2.out.size)); clear B )
      | (go_at_call 81; have := RB1; clear this; refine (circle_Sign _ _ _ _ _ _ _ _ hp _ (FT_1.out.below RB1.out (Nat.le_refl _))).mono ?_; rintro e w2 ⟨rfl, B⟩; have RB2 := Lib.hid (RB1.out.trans (B.mono RB1.out.size)); clear B ))
  have FT_3 := Lib.hid (FT_1.out.below RB3.out (Nat.le_refl _))
  have FP_3 := Lib.hid (FP_1.out.below RB3.out (Nat.le_refl _))
  have FQ_3 := Lib.hid (FQ_1.out.below RB3.out (Nat.le_refl _))
  have FR_3 := Lib.hid (FR_1.out.below RB3.out (Nat.le_refl _))
  have FV_3 := Lib.hid (FV_1.out.below RB3.out (Nat.le_refl _))
  have HB3 := Lib.hid (HB1.out.trans (RB3.out.mono HB1.out.size))
  clear HB1 FT_1 FP_1 FQ_1 FR_1 FV_1
  go_wp2_with fail
  go_ret
  exact ⟨rfl, HB3.out⟩

end Go.Proofs.YtoikcgmdlccdbaaDoor
