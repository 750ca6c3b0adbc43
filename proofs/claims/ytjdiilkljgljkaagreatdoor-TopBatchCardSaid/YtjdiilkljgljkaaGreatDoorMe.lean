/- Part e of the lemmas of TopBatch: contracts of functions of the program, and plain laws of numbers, bytes and memory. -/
import Derived.Test.YtjdiilkljgljkaaGreatDoorMd
import Derived.Deep.DeepCutAuto
import Derived.Test.YtjdiilkljgljkaaGreatDoorMa
import Derived.Test.YtjdiilkljgljkaaGreatDoorMb
import Derived.Test.YtjdiilkljgljkaaGreatDoorMc
import Derived.RangeFuncNested
import Derived.RangeFuncBound
import Derived.RangeFuncCalls
import Derived.RangeFuncLeaves
import Derived.Shelf.Abstract
import Derived.Shelf.RegionOpen
import Derived.WalkKit
import Derived.OwnWalkIn
import Derived.TacticsInMore
import Derived.LoopNIn
import Derived.LoopIn
set_option maxHeartbeats 4000000
namespace Go.Proofs.YtjdiilkljgljkaaGreatDoor
set_option linter.unusedVariables false
set_option linter.unusedSimpArgs false
open Go.RowKit Wd
theorem Zad {ax ay dx dy : Int} (h1 : IsI ax) (h2 : IsI ay) (h5 : IsI dx) (h6 : IsI dy) : Fit 3 (nrm ax ay dx dy) := ZdA (by have := nrm_bd h1 h2 h5 h6; omega)
theorem Zae {bx b_ cx cy dx dy : Int} (h1 : IsI bx) (h2 : IsI b_) (h3 : IsI cx) (h4 : IsI cy) (h5 : IsI dx) (h6 : IsI dy) : Fit 3 (mnr bx b_ cx cy dx dy) := ZdA (mnr_bd h1 h2 h3 h4 h5 h6)
theorem ZcY {x y : Int} (hx : Fit 3 x) (hy : Fit 3 y) : Fit 6 (x * y) := by
 unfold Fit at *
 have h := abs_mul_le (x := 2 * x) (y := 2 * y) (a := S 3) (b := S 3) ⟨by omega, by omega⟩ ⟨by omega, by omega⟩
 have e : 2 * x * (2 * y) = 4 * (x * y) := by grind
 rw [e, ← S_add] at h
 have hS := S_pos 6
 rw [show 3 + 3 = 6 from rfl] at h
 omega
def ZjX (w : World) (x1 y1 x2 y2 x3 y3 : Int) (s9 : Value) (wx : World) : Prop := ∃ (b : Nat) (U1 : Option Addr) (u1 : Nat) (V1 : Option Addr) (v1 : Nat) (U2 : Option Addr) (u2 : Nat) (V2 : Option Addr) (v2 : Nat) (U3 : Option Addr) (u3 : Nat) (V3 : Option Addr) (v3 : Nat),
 s9 = .pointer (some ⟨b, 0, none⟩) ∧ Bx wx b #[.slice U1 2 u1, .slice V1 2 v1, .slice U2 2 u2, .slice V2 2 v2, .slice U3 2 u3, .slice V3 2 v3] 238 ∧
 Sl wx .u64 U1 2 u1 (lmb x1) ∧ Sl wx .u64 V1 2 v1 (lmb y1) ∧ Sl wx .u64 U2 2 u2 (lmb x2) ∧ Sl wx .u64 V2 2 v2 (lmb y2) ∧ Sl wx .u64 U3 2 u3 (lmb x3) ∧ Sl wx .u64 V3 2 v3 (lmb y3) ∧ Below w.heap.size w wx
set_option maxHeartbeats 8000000 in
theorem Zf5 (ax ay bx b_ cx cy dx dy : Int) (hp : P4 ax ay bx b_ cx cy dx dy) (w : World) :
  Calls Tryz.prog 159 #[.agg #[.int .i64 ax, .int .i64 ay], .agg #[.int .i64 bx, .int .i64 b_], .agg #[.int .i64 cx, .int .i64 cy], .agg #[.int .i64 dx, .int .i64 dy]] w fun e w' => (∃ A c, e = .returned (.slice A 5 c) ∧ Sl w' .u64 A 5 c (lmb (circ ax ay bx b_ cx cy dx dy))) ∧ Below w.heap.size w w' := by
 have HB0 := η (Below.refl w.heap.size w)
 go_enter Tryz.func159, Tryz.ntmps159
 go_wp2_with fail
 have B : Below w.heap.size w ((((w.alloc (.cells #[.int .i64 ax, .int .i64 ay] 23)).alloc (.cells #[.int .i64 bx, .int .i64 b_] 23)).alloc (.cells #[.int .i64 cx, .int .i64 cy] 23)).alloc (.cells #[.int .i64 dx, .int .i64 dy] 23)) := ((((HB0.out.alloc HB0.out.size _).alloc (HB0.out.alloc HB0.out.size _).size _).alloc ((HB0.out.alloc HB0.out.size _).alloc (HB0.out.alloc HB0.out.size _).size _).size _).alloc (((HB0.out.alloc HB0.out.size _).alloc (HB0.out.alloc HB0.out.size _).size _).alloc ((HB0.out.alloc HB0.out.size _).alloc (HB0.out.alloc HB0.out.size _).size _).size _).size _)
 have C : Below w.heap.size w ((((w.alloc (.cells #[.int .i64 ax, .int .i64 ay] 23)).alloc (.cells #[.int .i64 bx, .int .i64 b_] 23)).alloc (.cells #[.int .i64 cx, .int .i64 cy] 23)).alloc (.cells #[.int .i64 dx, .int .i64 dy] 23)) := (((((Below.refl w.heap.size w).alloc ν _).alloc (by simp; try omega) _).alloc (by simp; try omega) _).alloc (by simp; try omega) _)
 have X0 : Bx ((((w.alloc (.cells #[.int .i64 ax, .int .i64 ay] 23)).alloc (.cells #[.int .i64 bx, .int .i64 b_] 23)).alloc (.cells #[.int .i64 cx, .int .i64 cy] 23)).alloc (.cells #[.int .i64 dx, .int .i64 dy] 23)) (w.heap.size) #[.int .i64 ax, .int .i64 ay] 23 := by simpa using ((((Bx.new w #[.int .i64 ax, .int .i64 ay] 23).alloc _).alloc _).alloc _)
 have X1 : Bx ((((w.alloc (.cells #[.int .i64 ax, .int .i64 ay] 23)).alloc (.cells #[.int .i64 bx, .int .i64 b_] 23)).alloc (.cells #[.int .i64 cx, .int .i64 cy] 23)).alloc (.cells #[.int .i64 dx, .int .i64 dy] 23)) (w.heap.size + 1) #[.int .i64 bx, .int .i64 b_] 23 := by simpa using (((Bx.new (w.alloc (.cells #[.int .i64 ax, .int .i64 ay] 23)) #[.int .i64 bx, .int .i64 b_] 23).alloc _).alloc _)
 have X2 : Bx ((((w.alloc (.cells #[.int .i64 ax, .int .i64 ay] 23)).alloc (.cells #[.int .i64 bx, .int .i64 b_] 23)).alloc (.cells #[.int .i64 cx, .int .i64 cy] 23)).alloc (.cells #[.int .i64 dx, .int .i64 dy] 23)) (w.heap.size + 1 + 1) #[.int .i64 cx, .int .i64 cy] 23 := by simpa using ((Bx.new ((w.alloc (.cells #[.int .i64 ax, .int .i64 ay] 23)).alloc (.cells #[.int .i64 bx, .int .i64 b_] 23)) #[.int .i64 cx, .int .i64 cy] 23).alloc _)
 have X3 : Bx ((((w.alloc (.cells #[.int .i64 ax, .int .i64 ay] 23)).alloc (.cells #[.int .i64 bx, .int .i64 b_] 23)).alloc (.cells #[.int .i64 cx, .int .i64 cy] 23)).alloc (.cells #[.int .i64 dx, .int .i64 dy] 23)) (w.heap.size + 1 + 1 + 1) #[.int .i64 dx, .int .i64 dy] 23 := by simpa using (Bx.new (((w.alloc (.cells #[.int .i64 ax, .int .i64 ay] 23)).alloc (.cells #[.int .i64 bx, .int .i64 b_] 23)).alloc (.cells #[.int .i64 cx, .int .i64 cy] 23)) #[.int .i64 dx, .int .i64 dy] 23)
 have HB1 := η B
 have FP_1 := η X0
 have FQ_1 := η X1
 have FT_1 := η X2
 have FV_1 := η X3
 clear B C X0 X1 X2 X3 HB0
 generalize ((((w.alloc (.cells #[.int .i64 ax, .int .i64 ay] 23)).alloc (.cells #[.int .i64 bx, .int .i64 b_] 23)).alloc (.cells #[.int .i64 cx, .int .i64 cy] 23)).alloc (.cells #[.int .i64 dx, .int .i64 dy] 23)) = w1 at *
 go_upto_region 1 with (fail)
 have M0 := trivial
 have QF := η (show ∀ w', Below w1.heap.size w1 w' → w'.cell? ⟨w.heap.size, 0, none⟩ = some (.int .i64 ax) ∧ w'.cell? ⟨w.heap.size, 1, none⟩ = some (.int .i64 ay) ∧ w'.cell? ⟨w.heap.size + 1, 0, none⟩ = some (.int .i64 bx) ∧ w'.cell? ⟨w.heap.size + 1, 1, none⟩ = some (.int .i64 b_) ∧ w'.cell? ⟨w.heap.size + 1 + 1, 0, none⟩ = some (.int .i64 cx) ∧ w'.cell? ⟨w.heap.size + 1 + 1, 1, none⟩ = some (.int .i64 cy) ∧ w'.cell? ⟨w.heap.size + 1 + 1 + 1, 0, none⟩ = some (.int .i64 dx) ∧ w'.cell? ⟨w.heap.size + 1 + 1 + 1, 1, none⟩ = some (.int .i64 dy) from fun w' hb => ⟨(FP_1.out.below hb ν).cell 0 (v := .int .i64 ax) rfl, (FP_1.out.below hb ν).cell 1 (v := .int .i64 ay) rfl, (FQ_1.out.below hb ν).cell 0 (v := .int .i64 bx) rfl, (FQ_1.out.below hb ν).cell 1 (v := .int .i64 b_) rfl, (FT_1.out.below hb ν).cell 0 (v := .int .i64 cx) rfl, (FT_1.out.below hb ν).cell 1 (v := .int .i64 cy) rfl, (FV_1.out.below hb ν).cell 0 (v := .int .i64 dx) rfl, (FV_1.out.below hb ν).cell 1 (v := .int .i64 dy) rfl⟩)
 go_cut [9] (fun s9 wx => ZjX w1 (ax - dx) (ay - dy) (bx - dx) (b_ - dy) (cx - dx) (cy - dy) s9 wx)
 case first =>
  go_region_held3 (fun w' => w'.cell? ⟨w.heap.size, 0, none⟩ = some (.int .i64 ax) ∧ w'.cell? ⟨w.heap.size, 1, none⟩ = some (.int .i64 ay) ∧ w'.cell? ⟨w.heap.size + 1, 0, none⟩ = some (.int .i64 bx) ∧ w'.cell? ⟨w.heap.size + 1, 1, none⟩ = some (.int .i64 b_) ∧ w'.cell? ⟨w.heap.size + 1 + 1, 0, none⟩ = some (.int .i64 cx) ∧ w'.cell? ⟨w.heap.size + 1 + 1, 1, none⟩ = some (.int .i64 cy) ∧ w'.cell? ⟨w.heap.size + 1 + 1 + 1, 0, none⟩ = some (.int .i64 dx) ∧ w'.cell? ⟨w.heap.size + 1 + 1 + 1, 1, none⟩ = some (.int .i64 dy)) (first | (with_reducible refine QF.out _ ?_; (repeat (first | (with_reducible refine J9 ?_ ?_; (focus (first | with_reducible assumption | with_reducible exact Nat.le_refl _ | (simp; done) | omega | (simp <;> omega)))) | with_reducible refine J6 ?_ C4.out | with_reducible refine J6 ?_ C3.out | with_reducible refine J6 ?_ C2.out | with_reducible refine J8 ?_ | with_reducible exact J0 | with_reducible refine Ja ?_)); done) | (with_reducible refine QF.out _ ?_; (repeat (first | (with_reducible refine J9 ?_ ?_; (focus (first | with_reducible assumption | with_reducible exact Nat.le_refl _ | (simp; done) | omega | (simp <;> omega)))) | with_reducible refine J6 ?_ C3.out | with_reducible refine J6 ?_ C2.out | with_reducible refine J8 ?_ | with_reducible exact J0 | with_reducible refine Ja ?_)); done) | (with_reducible refine QF.out _ ?_; (repeat (first | (with_reducible refine J9 ?_ ?_; (focus (first | with_reducible assumption | with_reducible exact Nat.le_refl _ | (simp; done) | omega | (simp <;> omega)))) | with_reducible refine J6 ?_ C2.out | with_reducible refine J8 ?_ | with_reducible exact J0 | with_reducible refine Ja ?_)); done) | (with_reducible refine QF.out _ ?_; (repeat (first | (with_reducible refine J9 ?_ ?_; (focus (first | with_reducible assumption | with_reducible exact Nat.le_refl _ | (simp; done) | omega | (simp <;> omega)))) | with_reducible refine J8 ?_ | with_reducible exact J0 | with_reducible refine Ja ?_)); done)) (first
     | (go_at_call 76; clear M2; have M3 := trivial; refine (Za5 dx dy cx cy hp.g hp.h hp.e hp.f _).mono ?_; rintro e w4 ⟨⟨U3, u3, V3, v3, rfl, S3, T3⟩, B⟩; have C4 := η B; clear B; have hs4 : w1.heap.size ≤ w4.heap.size := Below.size (B := w1.heap.size) (by (repeat (first | (with_reducible refine J9 ?_ ?_; (focus (first | with_reducible assumption | with_reducible exact Nat.le_refl _ | (simp; done) | omega | (simp <;> omega)))) | with_reducible refine J6 ?_ C4.out | with_reducible refine J6 ?_ C3.out | with_reducible refine J6 ?_ C2.out | with_reducible refine J8 ?_ | with_reducible exact J0 | with_reducible refine Ja ?_))); have GX1_ := η (Zby (w' := w4) GX1.out (by (repeat (first | with_reducible exact J0 | with_reducible refine J6 ?_ C4.out | with_reducible refine J8 ?_ | with_reducible refine Ja ?_)))); clear GX1; have GX1 := η GX1_.out; clear GX1_; have GY1_ := η (Zby (w' := w4) GY1.out (by (repeat (first | with_reducible exact J0 | with_reducible refine J6 ?_ C4.out | with_reducible refine J8 ?_ | with_reducible refine Ja ?_)))); clear GY1; have GY1 := η GY1_.out; clear GY1_; have GX2_ := η (Zby (w' := w4) GX2.out (by (repeat (first | with_reducible exact J0 | with_reducible refine J6 ?_ C4.out | with_reducible refine J8 ?_ | with_reducible refine Ja ?_)))); clear GX2; have GX2 := η GX2_.out; clear GX2_; have GY2_ := η (Zby (w' := w4) GY2.out (by (repeat (first | with_reducible exact J0 | with_reducible refine J6 ?_ C4.out | with_reducible refine J8 ?_ | with_reducible refine Ja ?_)))); clear GY2; have GY2 := η GY2_.out; clear GY2_; have GX3 := η S3; clear S3; have GY3 := η T3; clear T3; (try (refine Jh (T := Bx w4 (w1.heap.size) #[.slice none 0 0, .slice none 0 0, .slice none 0 0, .slice none 0 0, .slice none 0 0, .slice none 0 0] 238) ?_ (fun y4_0_0 => ?_); (focus ((repeat (first | (with_reducible refine Jb ?_; (focus (first | with_reducible rfl | (simp; done)))) | with_reducible refine Jg ?_ C4.out | with_reducible refine Jg ?_ C3.out | with_reducible refine Jg ?_ C2.out | with_reducible refine Jd (z0 := .slice none 0 0) (z1 := .slice none 0 0) ?_ | with_reducible refine Jd (z0 := .int .i64 0) (z1 := .slice none 0 0) ?_ | with_reducible refine Ji (z0 := .int .i64 0) (z1 := .slice none 0 0) (z2 := .int .i64 0) (z3 := .slice none 0 0) ?_ | (with_reducible refine Jl ?_ ?_; (focus (first | with_reducible assumption | with_reducible exact Nat.le_refl _ | (simp; done) | omega | (simp <;> omega)))) | with_reducible refine Jj ?_ | with_reducible refine Jf ?_)); done)); have y4_0_0c0 := y4_0_0.cell 0 (v := .slice none 0 0) rfl; have y4_0_0f0 := y4_0_0.free 0; have y4_0_0c1 := y4_0_0.cell 1 (v := .slice none 0 0) rfl; have y4_0_0f1 := y4_0_0.free 1; have y4_0_0c2 := y4_0_0.cell 2 (v := .slice none 0 0) rfl; have y4_0_0f2 := y4_0_0.free 2; have y4_0_0c3 := y4_0_0.cell 3 (v := .slice none 0 0) rfl; have y4_0_0f3 := y4_0_0.free 3; have y4_0_0c4 := y4_0_0.cell 4 (v := .slice none 0 0) rfl; have y4_0_0f4 := y4_0_0.free 4; have y4_0_0c5 := y4_0_0.cell 5 (v := .slice none 0 0) rfl; have y4_0_0f5 := y4_0_0.free 5; have y4_0_0l := y4_0_0.lt; have y4_0_0n := Nat.ne_of_lt y4_0_0l; have y4_0_0m := Nat.ne_of_gt y4_0_0l; have y4_0_0h := η y4_0_0; clear y4_0_0)); (try (refine Jh (T := Bx w4 (w2.heap.size) #[.slice none 0 0, .slice none 0 0, .slice none 0 0, .slice none 0 0, .slice none 0 0, .slice none 0 0] 238) ?_ (fun y4_1_0 => ?_); (focus ((repeat (first | (with_reducible refine Jb ?_; (focus (first | with_reducible rfl | (simp; done)))) | with_reducible refine Jg ?_ C4.out | with_reducible refine Jg ?_ C3.out | with_reducible refine Jg ?_ C2.out | with_reducible refine Jd (z0 := .slice none 0 0) (z1 := .slice none 0 0) ?_ | with_reducible refine Jd (z0 := .int .i64 0) (z1 := .slice none 0 0) ?_ | with_reducible refine Ji (z0 := .int .i64 0) (z1 := .slice none 0 0) (z2 := .int .i64 0) (z3 := .slice none 0 0) ?_ | (with_reducible refine Jl ?_ ?_; (focus (first | with_reducible assumption | with_reducible exact Nat.le_refl _ | (simp; done) | omega | (simp <;> omega)))) | with_reducible refine Jj ?_ | with_reducible refine Jf ?_)); done)); have y4_1_0c0 := y4_1_0.cell 0 (v := .slice none 0 0) rfl; have y4_1_0f0 := y4_1_0.free 0; have y4_1_0c1 := y4_1_0.cell 1 (v := .slice none 0 0) rfl; have y4_1_0f1 := y4_1_0.free 1; have y4_1_0c2 := y4_1_0.cell 2 (v := .slice none 0 0) rfl; have y4_1_0f2 := y4_1_0.free 2; have y4_1_0c3 := y4_1_0.cell 3 (v := .slice none 0 0) rfl; have y4_1_0f3 := y4_1_0.free 3; have y4_1_0c4 := y4_1_0.cell 4 (v := .slice none 0 0) rfl; have y4_1_0f4 := y4_1_0.free 4; have y4_1_0c5 := y4_1_0.cell 5 (v := .slice none 0 0) rfl; have y4_1_0f5 := y4_1_0.free 5; have y4_1_0l := y4_1_0.lt; have y4_1_0n := Nat.ne_of_lt y4_1_0l; have y4_1_0m := Nat.ne_of_gt y4_1_0l; have y4_1_0h := η y4_1_0; clear y4_1_0)); (try (refine Jh (T := Bx w4 (w3.heap.size) #[.slice none 0 0, .slice none 0 0, .slice none 0 0, .slice none 0 0, .slice none 0 0, .slice none 0 0] 238) ?_ (fun y4_2_0 => ?_); (focus ((repeat (first | (with_reducible refine Jb ?_; (focus (first | with_reducible rfl | (simp; done)))) | with_reducible refine Jg ?_ C4.out | with_reducible refine Jg ?_ C3.out | with_reducible refine Jg ?_ C2.out | with_reducible refine Jd (z0 := .slice none 0 0) (z1 := .slice none 0 0) ?_ | with_reducible refine Jd (z0 := .int .i64 0) (z1 := .slice none 0 0) ?_ | with_reducible refine Ji (z0 := .int .i64 0) (z1 := .slice none 0 0) (z2 := .int .i64 0) (z3 := .slice none 0 0) ?_ | (with_reducible refine Jl ?_ ?_; (focus (first | with_reducible assumption | with_reducible exact Nat.le_refl _ | (simp; done) | omega | (simp <;> omega)))) | with_reducible refine Jj ?_ | with_reducible refine Jf ?_)); done)); have y4_2_0c0 := y4_2_0.cell 0 (v := .slice none 0 0) rfl; have y4_2_0f0 := y4_2_0.free 0; have y4_2_0c1 := y4_2_0.cell 1 (v := .slice none 0 0) rfl; have y4_2_0f1 := y4_2_0.free 1; have y4_2_0c2 := y4_2_0.cell 2 (v := .slice none 0 0) rfl; have y4_2_0f2 := y4_2_0.free 2; have y4_2_0c3 := y4_2_0.cell 3 (v := .slice none 0 0) rfl; have y4_2_0f3 := y4_2_0.free 3; have y4_2_0c4 := y4_2_0.cell 4 (v := .slice none 0 0) rfl; have y4_2_0f4 := y4_2_0.free 4; have y4_2_0c5 := y4_2_0.cell 5 (v := .slice none 0 0) rfl; have y4_2_0f5 := y4_2_0.free 5; have y4_2_0l := y4_2_0.lt; have y4_2_0n := Nat.ne_of_lt y4_2_0l; have y4_2_0m := Nat.ne_of_gt y4_2_0l; have y4_2_0h := η y4_2_0; clear y4_2_0)))
     | (go_at_call 76; clear M1; have M2 := trivial; refine (Za5 dx dy bx b_ hp.g hp.h hp.c hp.d _).mono ?_; rintro e w3 ⟨⟨U2, u2, V2, v2, rfl, S2, T2⟩, B⟩; have C3 := η B; clear B; have hs3 : w1.heap.size ≤ w3.heap.size := Below.size (B := w1.heap.size) (by (repeat (first | (with_reducible refine J9 ?_ ?_; (focus (first | with_reducible assumption | with_reducible exact Nat.le_refl _ | (simp; done) | omega | (simp <;> omega)))) | with_reducible refine J6 ?_ C3.out | with_reducible refine J6 ?_ C2.out | with_reducible refine J8 ?_ | with_reducible exact J0 | with_reducible refine Ja ?_))); have GX1_ := η (Zby (w' := w3) GX1.out (by (repeat (first | with_reducible exact J0 | with_reducible refine J6 ?_ C3.out | with_reducible refine J8 ?_ | with_reducible refine Ja ?_)))); clear GX1; have GX1 := η GX1_.out; clear GX1_; have GY1_ := η (Zby (w' := w3) GY1.out (by (repeat (first | with_reducible exact J0 | with_reducible refine J6 ?_ C3.out | with_reducible refine J8 ?_ | with_reducible refine Ja ?_)))); clear GY1; have GY1 := η GY1_.out; clear GY1_; have GX2 := η S2; clear S2; have GY2 := η T2; clear T2; (try (refine Jh (T := Bx w3 (w1.heap.size) #[.slice none 0 0, .slice none 0 0, .slice none 0 0, .slice none 0 0, .slice none 0 0, .slice none 0 0] 238) ?_ (fun y3_0_0 => ?_); (focus ((repeat (first | (with_reducible refine Jb ?_; (focus (first | with_reducible rfl | (simp; done)))) | with_reducible refine Jg ?_ C3.out | with_reducible refine Jg ?_ C2.out | with_reducible refine Jd (z0 := .slice none 0 0) (z1 := .slice none 0 0) ?_ | with_reducible refine Jd (z0 := .int .i64 0) (z1 := .slice none 0 0) ?_ | with_reducible refine Ji (z0 := .int .i64 0) (z1 := .slice none 0 0) (z2 := .int .i64 0) (z3 := .slice none 0 0) ?_ | (with_reducible refine Jl ?_ ?_; (focus (first | with_reducible assumption | with_reducible exact Nat.le_refl _ | (simp; done) | omega | (simp <;> omega)))) | with_reducible refine Jj ?_ | with_reducible refine Jf ?_)); done)); have y3_0_0c0 := y3_0_0.cell 0 (v := .slice none 0 0) rfl; have y3_0_0f0 := y3_0_0.free 0; have y3_0_0c1 := y3_0_0.cell 1 (v := .slice none 0 0) rfl; have y3_0_0f1 := y3_0_0.free 1; have y3_0_0c2 := y3_0_0.cell 2 (v := .slice none 0 0) rfl; have y3_0_0f2 := y3_0_0.free 2; have y3_0_0c3 := y3_0_0.cell 3 (v := .slice none 0 0) rfl; have y3_0_0f3 := y3_0_0.free 3; have y3_0_0c4 := y3_0_0.cell 4 (v := .slice none 0 0) rfl; have y3_0_0f4 := y3_0_0.free 4; have y3_0_0c5 := y3_0_0.cell 5 (v := .slice none 0 0) rfl; have y3_0_0f5 := y3_0_0.free 5; have y3_0_0l := y3_0_0.lt; have y3_0_0n := Nat.ne_of_lt y3_0_0l; have y3_0_0m := Nat.ne_of_gt y3_0_0l; have y3_0_0h := η y3_0_0; clear y3_0_0)); (try (refine Jh (T := Bx w3 (w2.heap.size) #[.slice none 0 0, .slice none 0 0, .slice none 0 0, .slice none 0 0, .slice none 0 0, .slice none 0 0] 238) ?_ (fun y3_1_0 => ?_); (focus ((repeat (first | (with_reducible refine Jb ?_; (focus (first | with_reducible rfl | (simp; done)))) | with_reducible refine Jg ?_ C3.out | with_reducible refine Jg ?_ C2.out | with_reducible refine Jd (z0 := .slice none 0 0) (z1 := .slice none 0 0) ?_ | with_reducible refine Jd (z0 := .int .i64 0) (z1 := .slice none 0 0) ?_ | with_reducible refine Ji (z0 := .int .i64 0) (z1 := .slice none 0 0) (z2 := .int .i64 0) (z3 := .slice none 0 0) ?_ | (with_reducible refine Jl ?_ ?_; (focus (first | with_reducible assumption | with_reducible exact Nat.le_refl _ | (simp; done) | omega | (simp <;> omega)))) | with_reducible refine Jj ?_ | with_reducible refine Jf ?_)); done)); have y3_1_0c0 := y3_1_0.cell 0 (v := .slice none 0 0) rfl; have y3_1_0f0 := y3_1_0.free 0; have y3_1_0c1 := y3_1_0.cell 1 (v := .slice none 0 0) rfl; have y3_1_0f1 := y3_1_0.free 1; have y3_1_0c2 := y3_1_0.cell 2 (v := .slice none 0 0) rfl; have y3_1_0f2 := y3_1_0.free 2; have y3_1_0c3 := y3_1_0.cell 3 (v := .slice none 0 0) rfl; have y3_1_0f3 := y3_1_0.free 3; have y3_1_0c4 := y3_1_0.cell 4 (v := .slice none 0 0) rfl; have y3_1_0f4 := y3_1_0.free 4; have y3_1_0c5 := y3_1_0.cell 5 (v := .slice none 0 0) rfl; have y3_1_0f5 := y3_1_0.free 5; have y3_1_0l := y3_1_0.lt; have y3_1_0n := Nat.ne_of_lt y3_1_0l; have y3_1_0m := Nat.ne_of_gt y3_1_0l; have y3_1_0h := η y3_1_0; clear y3_1_0)))
     | (go_at_call 76; clear M0; have M1 := trivial; refine (Za5 dx dy ax ay hp.g hp.h hp.a hp.b _).mono ?_; rintro e w2 ⟨⟨U1, u1, V1, v1, rfl, S1, T1⟩, B⟩; have C2 := η B; clear B; have hs2 : w1.heap.size ≤ w2.heap.size := Below.size (B := w1.heap.size) (by (repeat (first | (with_reducible refine J9 ?_ ?_; (focus (first | with_reducible assumption | with_reducible exact Nat.le_refl _ | (simp; done) | omega | (simp <;> omega)))) | with_reducible refine J6 ?_ C2.out | with_reducible refine J8 ?_ | with_reducible exact J0 | with_reducible refine Ja ?_))); have GX1 := η S1; clear S1; have GY1 := η T1; clear T1; (try (refine Jh (T := Bx w2 (w1.heap.size) #[.slice none 0 0, .slice none 0 0, .slice none 0 0, .slice none 0 0, .slice none 0 0, .slice none 0 0] 238) ?_ (fun y2_0_0 => ?_); (focus ((repeat (first | (with_reducible refine Jb ?_; (focus (first | with_reducible rfl | (simp; done)))) | with_reducible refine Jg ?_ C2.out | with_reducible refine Jd (z0 := .slice none 0 0) (z1 := .slice none 0 0) ?_ | with_reducible refine Jd (z0 := .int .i64 0) (z1 := .slice none 0 0) ?_ | with_reducible refine Ji (z0 := .int .i64 0) (z1 := .slice none 0 0) (z2 := .int .i64 0) (z3 := .slice none 0 0) ?_ | (with_reducible refine Jl ?_ ?_; (focus (first | with_reducible assumption | with_reducible exact Nat.le_refl _ | (simp; done) | omega | (simp <;> omega)))) | with_reducible refine Jj ?_ | with_reducible refine Jf ?_)); done)); have y2_0_0c0 := y2_0_0.cell 0 (v := .slice none 0 0) rfl; have y2_0_0f0 := y2_0_0.free 0; have y2_0_0c1 := y2_0_0.cell 1 (v := .slice none 0 0) rfl; have y2_0_0f1 := y2_0_0.free 1; have y2_0_0c2 := y2_0_0.cell 2 (v := .slice none 0 0) rfl; have y2_0_0f2 := y2_0_0.free 2; have y2_0_0c3 := y2_0_0.cell 3 (v := .slice none 0 0) rfl; have y2_0_0f3 := y2_0_0.free 3; have y2_0_0c4 := y2_0_0.cell 4 (v := .slice none 0 0) rfl; have y2_0_0f4 := y2_0_0.free 4; have y2_0_0c5 := y2_0_0.cell 5 (v := .slice none 0 0) rfl; have y2_0_0f5 := y2_0_0.free 5; have y2_0_0l := y2_0_0.lt; have y2_0_0n := Nat.ne_of_lt y2_0_0l; have y2_0_0m := Nat.ne_of_gt y2_0_0l; have y2_0_0h := η y2_0_0; clear y2_0_0))))
  all_goals (go_wp2_with fail; go_meet; exact ⟨_, U1, u1, V1, v1, U2, u2, V2, v2, U3, u3, V3, v3, rfl, by (repeat (first | with_reducible exact y4_0_0h.out | with_reducible exact y4_1_0h.out | with_reducible exact y4_2_0h.out | (with_reducible refine Zav (z := .slice none 0 0) ?_) | (with_reducible refine Jb ?_; (focus (first | with_reducible rfl | (simp; done)))) | with_reducible refine Jj ?_ | with_reducible refine Jf ?_)), by (repeat (first | with_reducible exact GX1.out | (with_reducible refine Zb4 (t := 238) ?_ ?_; (focus ((repeat (first | with_reducible exact y4_0_0h.out | with_reducible exact y4_1_0h.out | with_reducible exact y4_2_0h.out | (with_reducible refine Zav (z := .slice none 0 0) ?_) | (with_reducible refine Jb ?_; (focus (first | with_reducible rfl | (simp; done)))) | with_reducible refine Jj ?_ | with_reducible refine Jf ?_)); done))) | with_reducible refine Zcs ?_ | with_reducible refine Zct ?_)), by (repeat (first | with_reducible exact GY1.out | (with_reducible refine Zb4 (t := 238) ?_ ?_; (focus ((repeat (first | with_reducible exact y4_0_0h.out | with_reducible exact y4_1_0h.out | with_reducible exact y4_2_0h.out | (with_reducible refine Zav (z := .slice none 0 0) ?_) | (with_reducible refine Jb ?_; (focus (first | with_reducible rfl | (simp; done)))) | with_reducible refine Jj ?_ | with_reducible refine Jf ?_)); done))) | with_reducible refine Zcs ?_ | with_reducible refine Zct ?_)), by (repeat (first | with_reducible exact GX2.out | (with_reducible refine Zb4 (t := 238) ?_ ?_; (focus ((repeat (first | with_reducible exact y4_0_0h.out | with_reducible exact y4_1_0h.out | with_reducible exact y4_2_0h.out | (with_reducible refine Zav (z := .slice none 0 0) ?_) | (with_reducible refine Jb ?_; (focus (first | with_reducible rfl | (simp; done)))) | with_reducible refine Jj ?_ | with_reducible refine Jf ?_)); done))) | with_reducible refine Zcs ?_ | with_reducible refine Zct ?_)), by (repeat (first | with_reducible exact GY2.out | (with_reducible refine Zb4 (t := 238) ?_ ?_; (focus ((repeat (first | with_reducible exact y4_0_0h.out | with_reducible exact y4_1_0h.out | with_reducible exact y4_2_0h.out | (with_reducible refine Zav (z := .slice none 0 0) ?_) | (with_reducible refine Jb ?_; (focus (first | with_reducible rfl | (simp; done)))) | with_reducible refine Jj ?_ | with_reducible refine Jf ?_)); done))) | with_reducible refine Zcs ?_ | with_reducible refine Zct ?_)), by (repeat (first | with_reducible exact GX3.out | (with_reducible refine Zb4 (t := 238) ?_ ?_; (focus ((repeat (first | with_reducible exact y4_0_0h.out | with_reducible exact y4_1_0h.out | with_reducible exact y4_2_0h.out | (with_reducible refine Zav (z := .slice none 0 0) ?_) | (with_reducible refine Jb ?_; (focus (first | with_reducible rfl | (simp; done)))) | with_reducible refine Jj ?_ | with_reducible refine Jf ?_)); done))) | with_reducible refine Zcs ?_ | with_reducible refine Zct ?_)), by (repeat (first | with_reducible exact GY3.out | (with_reducible refine Zb4 (t := 238) ?_ ?_; (focus ((repeat (first | with_reducible exact y4_0_0h.out | with_reducible exact y4_1_0h.out | with_reducible exact y4_2_0h.out | (with_reducible refine Zav (z := .slice none 0 0) ?_) | (with_reducible refine Jb ?_; (focus (first | with_reducible rfl | (simp; done)))) | with_reducible refine Jj ?_ | with_reducible refine Jf ?_)); done))) | with_reducible refine Zcs ?_ | with_reducible refine Zct ?_)), by (repeat (first | (with_reducible refine J9 ?_ ?_; (focus (first | with_reducible assumption | with_reducible exact Nat.le_refl _ | (simp; done) | omega | (simp <;> omega)))) | with_reducible refine J6 ?_ C4.out | with_reducible refine J6 ?_ C3.out | with_reducible refine J6 ?_ C2.out | with_reducible refine J8 ?_ | with_reducible exact J0 | with_reducible refine Ja ?_))⟩)
 case rest =>
  clear QF M0
  obtain ⟨b9, U1, u1, V1, v1, U2, u2, V2, v2, U3, u3, V3, v3, rfl, H, S1, T1, S2, T2, S3, T3, HCB⟩ := hcut
  have FP_5 := η (FP_1.out.below HCB ν); clear FP_1
  have FQ_5 := η (FQ_1.out.below HCB ν); clear FQ_1
  have FT_5 := η (FT_1.out.below HCB ν); clear FT_1
  have FV_5 := η (FV_1.out.below HCB ν); clear FV_1
  have HB5 := η (HB1.out.trans (HCB.mono HB1.out.size)); clear HCB HB1
  have FW := η H; have FX1 := η S1; have FY1 := η T1; have FX2 := η S2; have FY2 := η T2; have FX3 := η S3; have FY3 := η T3; clear H S1 T1 S2 T2 S3 T3
  go_wp2_with fail
  refine (Zce 0 5 5 rfl (by unfold IsI; omega) rfl _).mono ?_
  rintro e w6 ⟨Z0, z0, rfl, SZ, B⟩
  have HB6 := η (HB5.out.trans (B.mono HB5.out.size))
  have FW_6 := η (FW.out.below B ν)
  have FX1_6 := η (FX1.out.below B ν)
  have FY1_6 := η (FY1.out.below B ν)
  have FX2_6 := η (FX2.out.below B ν)
  have FY2_6 := η (FY2.out.below B ν)
  have FX3_6 := η (FX3.out.below B ν)
  have FY3_6 := η (FY3.out.below B ν)
  have FZ_6 := η SZ
  clear B SZ HB5 FW FX1 FY1 FX2 FY2 FX3 FY3
  have s1 : IntKind.i64.wrap 1 = 1 := rfl; have s2 : IntKind.i64.wrap 2 = 2 := rfl; have s3 : IntKind.i64.wrap 3 = 3 := rfl; have s4 : IntKind.i64.wrap 4 = 4 := rfl
  have m1 : (1 : Int).tmod 3 = 1 := rfl; have m2 : (2 : Int).tmod 3 = 2 := rfl; have m3 : (3 : Int).tmod 3 = 0 := rfl; have m4 : (4 : Int).tmod 3 = 1 := rfl
  go_wp2_with fail
  refine wp_loop_rounds 4 ?_
  rw [rounds_succ]
  go_wp2_with fail
  have RB6 := η (Je w6)
  have QS6 := η (show w6.cell? ⟨b9, 0, none⟩ = some (.slice U1 2 u1) ∧ w6.cell? ⟨b9, 1, none⟩ = some (.slice V1 2 v1) ∧ w6.cell? ⟨b9, 2, none⟩ = some (.slice U2 2 u2) ∧ w6.cell? ⟨b9, 3, none⟩ = some (.slice V2 2 v2) ∧ w6.cell? ⟨b9, 4, none⟩ = some (.slice U3 2 u3) ∧ w6.cell? ⟨b9, 5, none⟩ = some (.slice V3 2 v3) from ⟨FW_6.out.cell 0 (v := .slice U1 2 u1) rfl, FW_6.out.cell 1 (v := .slice V1 2 v1) rfl, FW_6.out.cell 2 (v := .slice U2 2 u2) rfl, FW_6.out.cell 3 (v := .slice V2 2 v2) rfl, FW_6.out.cell 4 (v := .slice U3 2 u3) rfl, FW_6.out.cell 5 (v := .slice V3 2 v3) rfl⟩)
  have QF6 := η (show ∀ w', Below w6.heap.size w6 w' → w'.cell? ⟨b9, 0, none⟩ = some (.slice U1 2 u1) ∧ w'.cell? ⟨b9, 1, none⟩ = some (.slice V1 2 v1) ∧ w'.cell? ⟨b9, 2, none⟩ = some (.slice U2 2 u2) ∧ w'.cell? ⟨b9, 3, none⟩ = some (.slice V2 2 v2) ∧ w'.cell? ⟨b9, 4, none⟩ = some (.slice U3 2 u3) ∧ w'.cell? ⟨b9, 5, none⟩ = some (.slice V3 2 v3) from fun w' hb => ⟨(FW_6.out.below hb ν).cell 0 (v := .slice U1 2 u1) rfl, (FW_6.out.below hb ν).cell 1 (v := .slice V1 2 v1) rfl, (FW_6.out.below hb ν).cell 2 (v := .slice U2 2 u2) rfl, (FW_6.out.below hb ν).cell 3 (v := .slice V2 2 v2) rfl, (FW_6.out.below hb ν).cell 4 (v := .slice U3 2 u3) rfl, (FW_6.out.below hb ν).cell 5 (v := .slice V3 2 v3) rfl⟩)
  go_region_held3 (fun w' => w'.cell? ⟨b9, 0, none⟩ = some (.slice U1 2 u1) ∧ w'.cell? ⟨b9, 1, none⟩ = some (.slice V1 2 v1) ∧ w'.cell? ⟨b9, 2, none⟩ = some (.slice U2 2 u2) ∧ w'.cell? ⟨b9, 3, none⟩ = some (.slice V2 2 v2) ∧ w'.cell? ⟨b9, 4, none⟩ = some (.slice U3 2 u3) ∧ w'.cell? ⟨b9, 5, none⟩ = some (.slice V3 2 v3)) (first | with_reducible exact QF6.out _ RB8.out | with_reducible exact QF6.out _ RB7.out | with_reducible exact QS6.out | with_reducible exact QF6.out _ RB6.out) (first
     | (go_at_call 74; have := RB7; clear this; refine (Js C1 4 d1 (mnr bx b_ cx cy dx dy) 3 3 rfl _ RC_7.out (fit_mono (Zae hp.c hp.d hp.e hp.f hp.g hp.h) (by omega)) rfl rfl).mono ?_; rintro e w8 ⟨C2, d2, rfl, SC, B⟩; have RB8 := η (RB7.out.trans (B.mono RB7.out.size)); have RC_8 := η (RC_7.out.below B ν); have RM_8 := η SC; clear B SC)
     | (go_at_call 75; have := RB6; clear this; refine (Zb1 U2 V2 U3 V3 u2 v2 u3 v3 _ _ _ _ _ (FX2_6.out.below RB6.out ν) (FY2_6.out.below RB6.out ν) (FX3_6.out.below RB6.out ν) (FY3_6.out.below RB6.out ν) (Jp hp.c hp.g) (Jp hp.d hp.h) (Jp hp.e hp.g) (Jp hp.f hp.h)).mono ?_; rintro e w7 ⟨⟨C1, d1, rfl, SC⟩, B⟩; have RB7 := η (RB6.out.trans (B.mono RB6.out.size)); have RC_7 := η (show Sl _ .u64 C1 4 d1 (lmb (mnr bx b_ cx cy dx dy)) from SC); clear B SC))
  have FW_8 := η (FW_6.out.below RB8.out ν)
  have FX1_8 := η (FX1_6.out.below RB8.out ν)
  have FY1_8 := η (FY1_6.out.below RB8.out ν)
  have FX2_8 := η (FX2_6.out.below RB8.out ν)
  have FY2_8 := η (FY2_6.out.below RB8.out ν)
  have FX3_8 := η (FX3_6.out.below RB8.out ν)
  have FY3_8 := η (FY3_6.out.below RB8.out ν)
  have FZ_8 := η (FZ_6.out.below RB8.out ν)
  have HB8 := η (HB6.out.trans (RB8.out.mono HB6.out.size))
  clear HB6 FW_6 FX1_6 FY1_6 FX2_6 FY2_6 FX3_6 FY3_6 FZ_6
  have vW0 := FW_8.out.cell 0 (v := .slice U1 2 u1) rfl
  have vW1 := FW_8.out.cell 1 (v := .slice V1 2 v1) rfl
  have vW2 := FW_8.out.cell 2 (v := .slice U2 2 u2) rfl
  have vW3 := FW_8.out.cell 3 (v := .slice V2 2 v2) rfl
  have vW4 := FW_8.out.cell 4 (v := .slice U3 2 u3) rfl
  have vW5 := FW_8.out.cell 5 (v := .slice V3 2 v3) rfl
  go_wp2_with fail
  refine (Zcf U1 V1 u1 v1 _ _ _ FX1_8.out FY1_8.out (Jp hp.a hp.g) (Jp hp.b hp.h)).mono ?_
  rintro e w9 ⟨⟨L1, l1, rfl, SL0⟩, B⟩
  clear vW0 vW1 vW2 vW3 vW4 vW5
  have SL := (show Sl _ .u64 L1 4 l1 (lmb (nrm ax ay dx dy)) from SL0); clear SL0
  have HB9 := η (HB8.out.trans (B.mono HB8.out.size))
  have FW_9 := η (FW_8.out.below B ν)
  have FX1_9 := η (FX1_8.out.below B ν)
  have FY1_9 := η (FY1_8.out.below B ν)
  have FX2_9 := η (FX2_8.out.below B ν)
  have FY2_9 := η (FY2_8.out.below B ν)
  have FX3_9 := η (FX3_8.out.below B ν)
  have FY3_9 := η (FY3_8.out.below B ν)
  have FZ_9 := η (FZ_8.out.below B ν)
  have FM_9 := η (RM_8.out.below B ν)
  have FL_9 := η SL
  clear B SL HB8 FW_8 FX1_8 FY1_8 FX2_8 FY2_8 FX3_8 FY3_8 FZ_8 RM_8
  go_wp2_with fail
  refine (Js L1 4 l1 (nrm ax ay dx dy) 3 3 rfl _ FL_9.out (fit_mono (Zad hp.a hp.b hp.g hp.h) (by omega)) rfl rfl).mono ?_
  rintro e w10 ⟨L2, l2, rfl, SL, B⟩
  have HB10 := η (HB9.out.trans (B.mono HB9.out.size))
  have FW_10 := η (FW_9.out.below B ν)
  have FX1_10 := η (FX1_9.out.below B ν)
  have FY1_10 := η (FY1_9.out.below B ν)
  have FX2_10 := η (FX2_9.out.below B ν)
  have FY2_10 := η (FY2_9.out.below B ν)
  have FX3_10 := η (FX3_9.out.below B ν)
  have FY3_10 := η (FY3_9.out.below B ν)
  have FZ_10 := η (FZ_9.out.below B ν)
  have FM_10 := η (FM_9.out.below B ν)
  have FL_10 := η (FL_9.out.below B ν)
  have FL_10 := η SL
  clear B SL HB9 FW_9 FX1_9 FY1_9 FX2_9 FY2_9 FX3_9 FY3_9 FZ_9 FM_9 FL_9
  go_wp2_with fail
  refine (Zaq L2 C2 3 l2 3 d2 (nrm ax ay dx dy) (mnr bx b_ cx cy dx dy) _ FL_10.out FM_10.out (Zad hp.a hp.b hp.g hp.h) (Zae hp.c hp.d hp.e hp.f hp.g hp.h) rfl rfl (by omega)).mono ?_
  rintro e w11 ⟨K1, q1, rfl, SK0, B⟩
  have SK := (show Sl _ .u64 K1 6 q1 (lmb (nrm ax ay dx dy * mnr bx b_ cx cy dx dy)) from SK0); clear SK0
  have HB11 := η (HB10.out.trans (B.mono HB10.out.size))
  have FW_11 := η (FW_10.out.below B ν)
  have FX1_11 := η (FX1_10.out.below B ν)
  have FY1_11 := η (FY1_10.out.below B ν)
  have FX2_11 := η (FX2_10.out.below B ν)
  have FY2_11 := η (FY2_10.out.below B ν)
  have FX3_11 := η (FX3_10.out.below B ν)
  have FY3_11 := η (FY3_10.out.below B ν)
  have FZ_11 := η (FZ_10.out.below B ν)
  have FM_11 := η (FM_10.out.below B ν)
  have FL_11 := η (FL_10.out.below B ν)
  have FK_11 := η SK
  clear B SK HB10 FW_10 FX1_10 FY1_10 FX2_10 FY2_10 FX3_10 FY3_10 FZ_10 FM_10 FL_10
  go_wp2_with fail
  refine (Js K1 6 q1 (nrm ax ay dx dy * mnr bx b_ cx cy dx dy) 5 5 rfl _ FK_11.out (ZcY (Zad hp.a hp.b hp.g hp.h) (Zae hp.c hp.d hp.e hp.f hp.g hp.h)) rfl rfl).mono ?_
  rintro e w12 ⟨K2, q2, rfl, SK, B⟩
  have HB12 := η (HB11.out.trans (B.mono HB11.out.size))
  have FW_12 := η (FW_11.out.below B ν)
  have FX1_12 := η (FX1_11.out.below B ν)
  have FY1_12 := η (FY1_11.out.below B ν)
  have FX2_12 := η (FX2_11.out.below B ν)
  have FY2_12 := η (FY2_11.out.below B ν)
  have FX3_12 := η (FX3_11.out.below B ν)
  have FY3_12 := η (FY3_11.out.below B ν)
  have FZ_12 := η (FZ_11.out.below B ν)
  have FK_12 := η (FK_11.out.below B ν)
  have FK_12 := η SK
  clear B SK HB11 FW_11 FX1_11 FY1_11 FX2_11 FY2_11 FX3_11 FY3_11 FZ_11 FK_11
  go_wp2_with fail
  refine (ZbP Z0 K2 5 z0 q2 (0) (nrm ax ay dx dy * mnr bx b_ cx cy dx dy) _ FZ_12.out FK_12.out rfl).mono ?_
  rintro e w13 ⟨Z1, z1, rfl, SZ, B⟩
  have HB13 := η (HB12.out.trans (B.mono HB12.out.size))
  have FW_13 := η (FW_12.out.below B ν)
  have FX1_13 := η (FX1_12.out.below B ν)
  have FY1_13 := η (FY1_12.out.below B ν)
  have FX2_13 := η (FX2_12.out.below B ν)
  have FY2_13 := η (FY2_12.out.below B ν)
  have FX3_13 := η (FX3_12.out.below B ν)
  have FY3_13 := η (FY3_12.out.below B ν)
  have FZ_13 := η (FZ_12.out.below B ν)
  have FK_13 := η (FK_12.out.below B ν)
  have FZ_13 := η SZ
  clear B SZ HB12 FW_12 FX1_12 FY1_12 FX2_12 FY2_12 FX3_12 FY3_12 FZ_12 FK_12
  go_wp2_with fail
  rw [rounds_succ]
  go_wp2_with fail
  have RB13 := η (Je w13)
  have QS13 := η (show w13.cell? ⟨b9, 0, none⟩ = some (.slice U1 2 u1) ∧ w13.cell? ⟨b9, 1, none⟩ = some (.slice V1 2 v1) ∧ w13.cell? ⟨b9, 2, none⟩ = some (.slice U2 2 u2) ∧ w13.cell? ⟨b9, 3, none⟩ = some (.slice V2 2 v2) ∧ w13.cell? ⟨b9, 4, none⟩ = some (.slice U3 2 u3) ∧ w13.cell? ⟨b9, 5, none⟩ = some (.slice V3 2 v3) from ⟨FW_13.out.cell 0 (v := .slice U1 2 u1) rfl, FW_13.out.cell 1 (v := .slice V1 2 v1) rfl, FW_13.out.cell 2 (v := .slice U2 2 u2) rfl, FW_13.out.cell 3 (v := .slice V2 2 v2) rfl, FW_13.out.cell 4 (v := .slice U3 2 u3) rfl, FW_13.out.cell 5 (v := .slice V3 2 v3) rfl⟩)
  have QF13 := η (show ∀ w', Below w13.heap.size w13 w' → w'.cell? ⟨b9, 0, none⟩ = some (.slice U1 2 u1) ∧ w'.cell? ⟨b9, 1, none⟩ = some (.slice V1 2 v1) ∧ w'.cell? ⟨b9, 2, none⟩ = some (.slice U2 2 u2) ∧ w'.cell? ⟨b9, 3, none⟩ = some (.slice V2 2 v2) ∧ w'.cell? ⟨b9, 4, none⟩ = some (.slice U3 2 u3) ∧ w'.cell? ⟨b9, 5, none⟩ = some (.slice V3 2 v3) from fun w' hb => ⟨(FW_13.out.below hb ν).cell 0 (v := .slice U1 2 u1) rfl, (FW_13.out.below hb ν).cell 1 (v := .slice V1 2 v1) rfl, (FW_13.out.below hb ν).cell 2 (v := .slice U2 2 u2) rfl, (FW_13.out.below hb ν).cell 3 (v := .slice V2 2 v2) rfl, (FW_13.out.below hb ν).cell 4 (v := .slice U3 2 u3) rfl, (FW_13.out.below hb ν).cell 5 (v := .slice V3 2 v3) rfl⟩)
  go_region_held3 (fun w' => w'.cell? ⟨b9, 0, none⟩ = some (.slice U1 2 u1) ∧ w'.cell? ⟨b9, 1, none⟩ = some (.slice V1 2 v1) ∧ w'.cell? ⟨b9, 2, none⟩ = some (.slice U2 2 u2) ∧ w'.cell? ⟨b9, 3, none⟩ = some (.slice V2 2 v2) ∧ w'.cell? ⟨b9, 4, none⟩ = some (.slice U3 2 u3) ∧ w'.cell? ⟨b9, 5, none⟩ = some (.slice V3 2 v3)) (first | with_reducible exact QF13.out _ RB15.out | with_reducible exact QF13.out _ RB14.out | with_reducible exact QS13.out | with_reducible exact QF13.out _ RB13.out) (first
     | (go_at_call 74; have := RB14; clear this; refine (Js C1 4 d1 (mnr cx cy ax ay dx dy) 3 3 rfl _ RC_14.out (fit_mono (Zae hp.e hp.f hp.a hp.b hp.g hp.h) (by omega)) rfl rfl).mono ?_; rintro e w15 ⟨C2, d2, rfl, SC, B⟩; have RB15 := η (RB14.out.trans (B.mono RB14.out.size)); have RC_15 := η (RC_14.out.below B ν); have RM_15 := η SC; clear B SC)
     | (go_at_call 75; have := RB13; clear this; refine (Zb1 U3 V3 U1 V1 u3 v3 u1 v1 _ _ _ _ _ (FX3_13.out.below RB13.out ν) (FY3_13.out.below RB13.out ν) (FX1_13.out.below RB13.out ν) (FY1_13.out.below RB13.out ν) (Jp hp.e hp.g) (Jp hp.f hp.h) (Jp hp.a hp.g) (Jp hp.b hp.h)).mono ?_; rintro e w14 ⟨⟨C1, d1, rfl, SC⟩, B⟩; have RB14 := η (RB13.out.trans (B.mono RB13.out.size)); have RC_14 := η (show Sl _ .u64 C1 4 d1 (lmb (mnr cx cy ax ay dx dy)) from SC); clear B SC))
  have FW_15 := η (FW_13.out.below RB15.out ν)
  have FX1_15 := η (FX1_13.out.below RB15.out ν)
  have FY1_15 := η (FY1_13.out.below RB15.out ν)
  have FX2_15 := η (FX2_13.out.below RB15.out ν)
  have FY2_15 := η (FY2_13.out.below RB15.out ν)
  have FX3_15 := η (FX3_13.out.below RB15.out ν)
  have FY3_15 := η (FY3_13.out.below RB15.out ν)
  have FZ_15 := η (FZ_13.out.below RB15.out ν)
  have HB15 := η (HB13.out.trans (RB15.out.mono HB13.out.size))
  clear HB13 FW_13 FX1_13 FY1_13 FX2_13 FY2_13 FX3_13 FY3_13 FZ_13
  have vW0 := FW_15.out.cell 0 (v := .slice U1 2 u1) rfl
  have vW1 := FW_15.out.cell 1 (v := .slice V1 2 v1) rfl
  have vW2 := FW_15.out.cell 2 (v := .slice U2 2 u2) rfl
  have vW3 := FW_15.out.cell 3 (v := .slice V2 2 v2) rfl
  have vW4 := FW_15.out.cell 4 (v := .slice U3 2 u3) rfl
  have vW5 := FW_15.out.cell 5 (v := .slice V3 2 v3) rfl
  go_wp2_with fail
  refine (Zcf U2 V2 u2 v2 _ _ _ FX2_15.out FY2_15.out (Jp hp.c hp.g) (Jp hp.d hp.h)).mono ?_
  rintro e w16 ⟨⟨L1, l1, rfl, SL0⟩, B⟩
  clear vW0 vW1 vW2 vW3 vW4 vW5
  have SL := (show Sl _ .u64 L1 4 l1 (lmb (nrm bx b_ dx dy)) from SL0); clear SL0
  have HB16 := η (HB15.out.trans (B.mono HB15.out.size))
  have FW_16 := η (FW_15.out.below B ν)
  have FX1_16 := η (FX1_15.out.below B ν)
  have FY1_16 := η (FY1_15.out.below B ν)
  have FX2_16 := η (FX2_15.out.below B ν)
  have FY2_16 := η (FY2_15.out.below B ν)
  have FX3_16 := η (FX3_15.out.below B ν)
  have FY3_16 := η (FY3_15.out.below B ν)
  have FZ_16 := η (FZ_15.out.below B ν)
  have FM_16 := η (RM_15.out.below B ν)
  have FL_16 := η SL
  clear B SL HB15 FW_15 FX1_15 FY1_15 FX2_15 FY2_15 FX3_15 FY3_15 FZ_15 RM_15
  go_wp2_with fail
  refine (Js L1 4 l1 (nrm bx b_ dx dy) 3 3 rfl _ FL_16.out (fit_mono (Zad hp.c hp.d hp.g hp.h) (by omega)) rfl rfl).mono ?_
  rintro e w17 ⟨L2, l2, rfl, SL, B⟩
  have HB17 := η (HB16.out.trans (B.mono HB16.out.size))
  have FW_17 := η (FW_16.out.below B ν)
  have FX1_17 := η (FX1_16.out.below B ν)
  have FY1_17 := η (FY1_16.out.below B ν)
  have FX2_17 := η (FX2_16.out.below B ν)
  have FY2_17 := η (FY2_16.out.below B ν)
  have FX3_17 := η (FX3_16.out.below B ν)
  have FY3_17 := η (FY3_16.out.below B ν)
  have FZ_17 := η (FZ_16.out.below B ν)
  have FM_17 := η (FM_16.out.below B ν)
  have FL_17 := η (FL_16.out.below B ν)
  have FL_17 := η SL
  clear B SL HB16 FW_16 FX1_16 FY1_16 FX2_16 FY2_16 FX3_16 FY3_16 FZ_16 FM_16 FL_16
  go_wp2_with fail
  refine (Zaq L2 C2 3 l2 3 d2 (nrm bx b_ dx dy) (mnr cx cy ax ay dx dy) _ FL_17.out FM_17.out (Zad hp.c hp.d hp.g hp.h) (Zae hp.e hp.f hp.a hp.b hp.g hp.h) rfl rfl (by omega)).mono ?_
  rintro e w18 ⟨K1, q1, rfl, SK0, B⟩
  have SK := (show Sl _ .u64 K1 6 q1 (lmb (nrm bx b_ dx dy * mnr cx cy ax ay dx dy)) from SK0); clear SK0
  have HB18 := η (HB17.out.trans (B.mono HB17.out.size))
  have FW_18 := η (FW_17.out.below B ν)
  have FX1_18 := η (FX1_17.out.below B ν)
  have FY1_18 := η (FY1_17.out.below B ν)
  have FX2_18 := η (FX2_17.out.below B ν)
  have FY2_18 := η (FY2_17.out.below B ν)
  have FX3_18 := η (FX3_17.out.below B ν)
  have FY3_18 := η (FY3_17.out.below B ν)
  have FZ_18 := η (FZ_17.out.below B ν)
  have FM_18 := η (FM_17.out.below B ν)
  have FL_18 := η (FL_17.out.below B ν)
  have FK_18 := η SK
  clear B SK HB17 FW_17 FX1_17 FY1_17 FX2_17 FY2_17 FX3_17 FY3_17 FZ_17 FM_17 FL_17
  go_wp2_with fail
  refine (Js K1 6 q1 (nrm bx b_ dx dy * mnr cx cy ax ay dx dy) 5 5 rfl _ FK_18.out (ZcY (Zad hp.c hp.d hp.g hp.h) (Zae hp.e hp.f hp.a hp.b hp.g hp.h)) rfl rfl).mono ?_
  rintro e w19 ⟨K2, q2, rfl, SK, B⟩
  have HB19 := η (HB18.out.trans (B.mono HB18.out.size))
  have FW_19 := η (FW_18.out.below B ν)
  have FX1_19 := η (FX1_18.out.below B ν)
  have FY1_19 := η (FY1_18.out.below B ν)
  have FX2_19 := η (FX2_18.out.below B ν)
  have FY2_19 := η (FY2_18.out.below B ν)
  have FX3_19 := η (FX3_18.out.below B ν)
  have FY3_19 := η (FY3_18.out.below B ν)
  have FZ_19 := η (FZ_18.out.below B ν)
  have FK_19 := η (FK_18.out.below B ν)
  have FK_19 := η SK
  clear B SK HB18 FW_18 FX1_18 FY1_18 FX2_18 FY2_18 FX3_18 FY3_18 FZ_18 FK_18
  go_wp2_with fail
  refine (ZbP Z1 K2 5 z1 q2 (0 + nrm ax ay dx dy * mnr bx b_ cx cy dx dy) (nrm bx b_ dx dy * mnr cx cy ax ay dx dy) _ FZ_19.out FK_19.out rfl).mono ?_
  rintro e w20 ⟨Z2, z2, rfl, SZ, B⟩
  have HB20 := η (HB19.out.trans (B.mono HB19.out.size))
  have FW_20 := η (FW_19.out.below B ν)
  have FX1_20 := η (FX1_19.out.below B ν)
  have FY1_20 := η (FY1_19.out.below B ν)
  have FX2_20 := η (FX2_19.out.below B ν)
  have FY2_20 := η (FY2_19.out.below B ν)
  have FX3_20 := η (FX3_19.out.below B ν)
  have FY3_20 := η (FY3_19.out.below B ν)
  have FZ_20 := η (FZ_19.out.below B ν)
  have FK_20 := η (FK_19.out.below B ν)
  have FZ_20 := η SZ
  clear B SZ HB19 FW_19 FX1_19 FY1_19 FX2_19 FY2_19 FX3_19 FY3_19 FZ_19 FK_19
  go_wp2_with fail
  rw [rounds_succ]
  go_wp2_with fail
  have RB20 := η (Je w20)
  have QS20 := η (show w20.cell? ⟨b9, 0, none⟩ = some (.slice U1 2 u1) ∧ w20.cell? ⟨b9, 1, none⟩ = some (.slice V1 2 v1) ∧ w20.cell? ⟨b9, 2, none⟩ = some (.slice U2 2 u2) ∧ w20.cell? ⟨b9, 3, none⟩ = some (.slice V2 2 v2) ∧ w20.cell? ⟨b9, 4, none⟩ = some (.slice U3 2 u3) ∧ w20.cell? ⟨b9, 5, none⟩ = some (.slice V3 2 v3) from ⟨FW_20.out.cell 0 (v := .slice U1 2 u1) rfl, FW_20.out.cell 1 (v := .slice V1 2 v1) rfl, FW_20.out.cell 2 (v := .slice U2 2 u2) rfl, FW_20.out.cell 3 (v := .slice V2 2 v2) rfl, FW_20.out.cell 4 (v := .slice U3 2 u3) rfl, FW_20.out.cell 5 (v := .slice V3 2 v3) rfl⟩)
  have QF20 := η (show ∀ w', Below w20.heap.size w20 w' → w'.cell? ⟨b9, 0, none⟩ = some (.slice U1 2 u1) ∧ w'.cell? ⟨b9, 1, none⟩ = some (.slice V1 2 v1) ∧ w'.cell? ⟨b9, 2, none⟩ = some (.slice U2 2 u2) ∧ w'.cell? ⟨b9, 3, none⟩ = some (.slice V2 2 v2) ∧ w'.cell? ⟨b9, 4, none⟩ = some (.slice U3 2 u3) ∧ w'.cell? ⟨b9, 5, none⟩ = some (.slice V3 2 v3) from fun w' hb => ⟨(FW_20.out.below hb ν).cell 0 (v := .slice U1 2 u1) rfl, (FW_20.out.below hb ν).cell 1 (v := .slice V1 2 v1) rfl, (FW_20.out.below hb ν).cell 2 (v := .slice U2 2 u2) rfl, (FW_20.out.below hb ν).cell 3 (v := .slice V2 2 v2) rfl, (FW_20.out.below hb ν).cell 4 (v := .slice U3 2 u3) rfl, (FW_20.out.below hb ν).cell 5 (v := .slice V3 2 v3) rfl⟩)
  go_region_held3 (fun w' => w'.cell? ⟨b9, 0, none⟩ = some (.slice U1 2 u1) ∧ w'.cell? ⟨b9, 1, none⟩ = some (.slice V1 2 v1) ∧ w'.cell? ⟨b9, 2, none⟩ = some (.slice U2 2 u2) ∧ w'.cell? ⟨b9, 3, none⟩ = some (.slice V2 2 v2) ∧ w'.cell? ⟨b9, 4, none⟩ = some (.slice U3 2 u3) ∧ w'.cell? ⟨b9, 5, none⟩ = some (.slice V3 2 v3)) (first | with_reducible exact QF20.out _ RB22.out | with_reducible exact QF20.out _ RB21.out | with_reducible exact QS20.out | with_reducible exact QF20.out _ RB20.out) (first
     | (go_at_call 74; have := RB21; clear this; refine (Js C1 4 d1 (mnr ax ay bx b_ dx dy) 3 3 rfl _ RC_21.out (fit_mono (Zae hp.a hp.b hp.c hp.d hp.g hp.h) (by omega)) rfl rfl).mono ?_; rintro e w22 ⟨C2, d2, rfl, SC, B⟩; have RB22 := η (RB21.out.trans (B.mono RB21.out.size)); have RC_22 := η (RC_21.out.below B ν); have RM_22 := η SC; clear B SC)
     | (go_at_call 75; have := RB20; clear this; refine (Zb1 U1 V1 U2 V2 u1 v1 u2 v2 _ _ _ _ _ (FX1_20.out.below RB20.out ν) (FY1_20.out.below RB20.out ν) (FX2_20.out.below RB20.out ν) (FY2_20.out.below RB20.out ν) (Jp hp.a hp.g) (Jp hp.b hp.h) (Jp hp.c hp.g) (Jp hp.d hp.h)).mono ?_; rintro e w21 ⟨⟨C1, d1, rfl, SC⟩, B⟩; have RB21 := η (RB20.out.trans (B.mono RB20.out.size)); have RC_21 := η (show Sl _ .u64 C1 4 d1 (lmb (mnr ax ay bx b_ dx dy)) from SC); clear B SC))
  have FW_22 := η (FW_20.out.below RB22.out ν)
  have FX1_22 := η (FX1_20.out.below RB22.out ν)
  have FY1_22 := η (FY1_20.out.below RB22.out ν)
  have FX2_22 := η (FX2_20.out.below RB22.out ν)
  have FY2_22 := η (FY2_20.out.below RB22.out ν)
  have FX3_22 := η (FX3_20.out.below RB22.out ν)
  have FY3_22 := η (FY3_20.out.below RB22.out ν)
  have FZ_22 := η (FZ_20.out.below RB22.out ν)
  have HB22 := η (HB20.out.trans (RB22.out.mono HB20.out.size))
  clear HB20 FW_20 FX1_20 FY1_20 FX2_20 FY2_20 FX3_20 FY3_20 FZ_20
  have vW0 := FW_22.out.cell 0 (v := .slice U1 2 u1) rfl
  have vW1 := FW_22.out.cell 1 (v := .slice V1 2 v1) rfl
  have vW2 := FW_22.out.cell 2 (v := .slice U2 2 u2) rfl
  have vW3 := FW_22.out.cell 3 (v := .slice V2 2 v2) rfl
  have vW4 := FW_22.out.cell 4 (v := .slice U3 2 u3) rfl
  have vW5 := FW_22.out.cell 5 (v := .slice V3 2 v3) rfl
  go_wp2_with fail
  refine (Zcf U3 V3 u3 v3 _ _ _ FX3_22.out FY3_22.out (Jp hp.e hp.g) (Jp hp.f hp.h)).mono ?_
  rintro e w23 ⟨⟨L1, l1, rfl, SL0⟩, B⟩
  clear vW0 vW1 vW2 vW3 vW4 vW5
  have SL := (show Sl _ .u64 L1 4 l1 (lmb (nrm cx cy dx dy)) from SL0); clear SL0
  have HB23 := η (HB22.out.trans (B.mono HB22.out.size))
  have FW_23 := η (FW_22.out.below B ν)
  have FX1_23 := η (FX1_22.out.below B ν)
  have FY1_23 := η (FY1_22.out.below B ν)
  have FX2_23 := η (FX2_22.out.below B ν)
  have FY2_23 := η (FY2_22.out.below B ν)
  have FX3_23 := η (FX3_22.out.below B ν)
  have FY3_23 := η (FY3_22.out.below B ν)
  have FZ_23 := η (FZ_22.out.below B ν)
  have FM_23 := η (RM_22.out.below B ν)
  have FL_23 := η SL
  clear B SL HB22 FW_22 FX1_22 FY1_22 FX2_22 FY2_22 FX3_22 FY3_22 FZ_22 RM_22
  go_wp2_with fail
  refine (Js L1 4 l1 (nrm cx cy dx dy) 3 3 rfl _ FL_23.out (fit_mono (Zad hp.e hp.f hp.g hp.h) (by omega)) rfl rfl).mono ?_
  rintro e w24 ⟨L2, l2, rfl, SL, B⟩
  have HB24 := η (HB23.out.trans (B.mono HB23.out.size))
  have FW_24 := η (FW_23.out.below B ν)
  have FX1_24 := η (FX1_23.out.below B ν)
  have FY1_24 := η (FY1_23.out.below B ν)
  have FX2_24 := η (FX2_23.out.below B ν)
  have FY2_24 := η (FY2_23.out.below B ν)
  have FX3_24 := η (FX3_23.out.below B ν)
  have FY3_24 := η (FY3_23.out.below B ν)
  have FZ_24 := η (FZ_23.out.below B ν)
  have FM_24 := η (FM_23.out.below B ν)
  have FL_24 := η (FL_23.out.below B ν)
  have FL_24 := η SL
  clear B SL HB23 FW_23 FX1_23 FY1_23 FX2_23 FY2_23 FX3_23 FY3_23 FZ_23 FM_23 FL_23
  go_wp2_with fail
  refine (Zaq L2 C2 3 l2 3 d2 (nrm cx cy dx dy) (mnr ax ay bx b_ dx dy) _ FL_24.out FM_24.out (Zad hp.e hp.f hp.g hp.h) (Zae hp.a hp.b hp.c hp.d hp.g hp.h) rfl rfl (by omega)).mono ?_
  rintro e w25 ⟨K1, q1, rfl, SK0, B⟩
  have SK := (show Sl _ .u64 K1 6 q1 (lmb (nrm cx cy dx dy * mnr ax ay bx b_ dx dy)) from SK0); clear SK0
  have HB25 := η (HB24.out.trans (B.mono HB24.out.size))
  have FW_25 := η (FW_24.out.below B ν)
  have FX1_25 := η (FX1_24.out.below B ν)
  have FY1_25 := η (FY1_24.out.below B ν)
  have FX2_25 := η (FX2_24.out.below B ν)
  have FY2_25 := η (FY2_24.out.below B ν)
  have FX3_25 := η (FX3_24.out.below B ν)
  have FY3_25 := η (FY3_24.out.below B ν)
  have FZ_25 := η (FZ_24.out.below B ν)
  have FM_25 := η (FM_24.out.below B ν)
  have FL_25 := η (FL_24.out.below B ν)
  have FK_25 := η SK
  clear B SK HB24 FW_24 FX1_24 FY1_24 FX2_24 FY2_24 FX3_24 FY3_24 FZ_24 FM_24 FL_24
  go_wp2_with fail
  refine (Js K1 6 q1 (nrm cx cy dx dy * mnr ax ay bx b_ dx dy) 5 5 rfl _ FK_25.out (ZcY (Zad hp.e hp.f hp.g hp.h) (Zae hp.a hp.b hp.c hp.d hp.g hp.h)) rfl rfl).mono ?_
  rintro e w26 ⟨K2, q2, rfl, SK, B⟩
  have HB26 := η (HB25.out.trans (B.mono HB25.out.size))
  have FW_26 := η (FW_25.out.below B ν)
  have FX1_26 := η (FX1_25.out.below B ν)
  have FY1_26 := η (FY1_25.out.below B ν)
  have FX2_26 := η (FX2_25.out.below B ν)
  have FY2_26 := η (FY2_25.out.below B ν)
  have FX3_26 := η (FX3_25.out.below B ν)
  have FY3_26 := η (FY3_25.out.below B ν)
  have FZ_26 := η (FZ_25.out.below B ν)
  have FK_26 := η (FK_25.out.below B ν)
  have FK_26 := η SK
  clear B SK HB25 FW_25 FX1_25 FY1_25 FX2_25 FY2_25 FX3_25 FY3_25 FZ_25 FK_25
  go_wp2_with fail
  refine (ZbP Z2 K2 5 z2 q2 (0 + nrm ax ay dx dy * mnr bx b_ cx cy dx dy + nrm bx b_ dx dy * mnr cx cy ax ay dx dy) (nrm cx cy dx dy * mnr ax ay bx b_ dx dy) _ FZ_26.out FK_26.out rfl).mono ?_
  rintro e w27 ⟨Z3, z3, rfl, SZ, B⟩
  have HB27 := η (HB26.out.trans (B.mono HB26.out.size))
  have FW_27 := η (FW_26.out.below B ν)
  have FX1_27 := η (FX1_26.out.below B ν)
  have FY1_27 := η (FY1_26.out.below B ν)
  have FX2_27 := η (FX2_26.out.below B ν)
  have FY2_27 := η (FY2_26.out.below B ν)
  have FX3_27 := η (FX3_26.out.below B ν)
  have FY3_27 := η (FY3_26.out.below B ν)
  have FZ_27 := η (FZ_26.out.below B ν)
  have FK_27 := η (FK_26.out.below B ν)
  have FZ_27 := η SZ
  clear B SZ HB26 FW_26 FX1_26 FY1_26 FX2_26 FY2_26 FX3_26 FY3_26 FZ_26 FK_26
  go_wp2_with fail
  rw [rounds_succ]
  go_wp2_with fail
  go_ret
  have ez : 0 + nrm ax ay dx dy * mnr bx b_ cx cy dx dy + nrm bx b_ dx dy * mnr cx cy ax ay dx dy + nrm cx cy dx dy * mnr ax ay bx b_ dx dy = circ ax ay bx b_ cx cy dx dy := by unfold circ; omega
  exact ⟨⟨_, _, rfl, by rw [← ez]; exact FZ_27.out⟩, HB27.out⟩
set_option maxHeartbeats 1000000 in
theorem ZfO (ax ay bx b_ cx cy dx dy : Int) (hp : P4 ax ay bx b_ cx cy dx dy) (w : World) (hT : TabM w) :
  Calls Tryz.prog 144 #[.agg #[.int .i64 ax, .int .i64 ay], .agg #[.int .i64 bx, .int .i64 b_], .agg #[.int .i64 cx, .int .i64 cy], .agg #[.int .i64 dx, .int .i64 dy]] w fun e w' => e = .returned (.int .i64 (sg (circ ax ay bx b_ cx cy dx dy))) ∧ Below w.heap.size w w' := by
 have HB0 := η (Below.refl w.heap.size w)
 have FT := η hT
 clear hT
 have HF := η hp.fit
 go_enter Tryz.func144, Tryz.ntmps144
 go_wp2_with fail
 refine (Zf5 _ _ _ _ _ _ _ _ hp _).mono ?_
 rintro e w1 ⟨⟨U1, u1, rfl, S1⟩, B⟩
 have HB1 := η (((((HB0.out.alloc HB0.out.size _).alloc (HB0.out.alloc HB0.out.size _).size _).alloc ((HB0.out.alloc HB0.out.size _).alloc (HB0.out.alloc HB0.out.size _).size _).size _).alloc (((HB0.out.alloc HB0.out.size _).alloc (HB0.out.alloc HB0.out.size _).size _).alloc ((HB0.out.alloc HB0.out.size _).alloc (HB0.out.alloc HB0.out.size _).size _).size _).size _).trans (B.mono ((((HB0.out.alloc HB0.out.size _).alloc (HB0.out.alloc HB0.out.size _).size _).alloc ((HB0.out.alloc HB0.out.size _).alloc (HB0.out.alloc HB0.out.size _).size _).size _).alloc (((HB0.out.alloc HB0.out.size _).alloc (HB0.out.alloc HB0.out.size _).size _).alloc ((HB0.out.alloc HB0.out.size _).alloc (HB0.out.alloc HB0.out.size _).size _).size _).size _).size))
 have FT_1 := η (((((FT.out.alloc _).alloc _).alloc _).alloc _).below B ν)
 have FX_1 := η S1
 clear B S1 HB0 FT
 go_wp2_with fail
 refine (Ze5 _ _ _ _ _ FX_1.out HF.out rfl FT_1.out).mono ?_
 rintro e w2 ⟨rfl, B⟩
 have HB2 := η (HB1.out.trans (B.mono HB1.out.size))
 have FT_2 := η (FT_1.out.below B ν)
 have FX_2 := η (FX_1.out.below B ν)
 clear B  HB1 FT_1 FX_1
 go_wp2_with fail
 go_ret
 exact ⟨rfl, HB2.out⟩
theorem Zcg (x y : Int) : -1 ≤ sg x * sg y ∧ sg x * sg y ≤ 1 := by
 have h := abs_mul_le (a := 1) (b := 1) (Jr x) (Jr y)
 exact h
theorem Zf6 (x y : Int) : IntKind.i64.wrap (sg x * sg y) = sg x * sg y := by have := Zcg x y; rw [IntKind.wrap_i64]; omega
set_option maxHeartbeats 2000000 in
theorem ZfP (ax ay bx b_ cx cy dx dy : Int) (hp : P4 ax ay bx b_ cx cy dx dy) (w : World) (hT : TabM w) :
  Calls Tryz.prog 202 #[.agg #[.int .i64 ax, .int .i64 ay], .agg #[.int .i64 bx, .int .i64 b_], .agg #[.int .i64 cx, .int .i64 cy], .agg #[.int .i64 dx, .int .i64 dy]] w fun e w' => e = .returned (.int .i64 (sg (circ ax ay bx b_ cx cy dx dy) * sg (det ax ay bx b_ cx cy))) ∧ Below w.heap.size w w' := by
 have HB0 := η (Below.refl w.heap.size w)
 have FT := η hT
 clear hT
 have r1 := Jr (circ ax ay bx b_ cx cy dx dy); have r2 := Jr (det ax ay bx b_ cx cy)
 have hw := Zf6 (circ ax ay bx b_ cx cy dx dy) (det ax ay bx b_ cx cy)
 go_enter Tryz.func202, Tryz.ntmps202
 go_wp2_with fail
 have B : Below w.heap.size w ((((w.alloc (.cells #[.int .i64 ax, .int .i64 ay] 23)).alloc (.cells #[.int .i64 bx, .int .i64 b_] 23)).alloc (.cells #[.int .i64 cx, .int .i64 cy] 23)).alloc (.cells #[.int .i64 dx, .int .i64 dy] 23)) := ((((HB0.out.alloc HB0.out.size _).alloc (HB0.out.alloc HB0.out.size _).size _).alloc ((HB0.out.alloc HB0.out.size _).alloc (HB0.out.alloc HB0.out.size _).size _).size _).alloc (((HB0.out.alloc HB0.out.size _).alloc (HB0.out.alloc HB0.out.size _).size _).alloc ((HB0.out.alloc HB0.out.size _).alloc (HB0.out.alloc HB0.out.size _).size _).size _).size _)
 have C : Below w.heap.size w ((((w.alloc (.cells #[.int .i64 ax, .int .i64 ay] 23)).alloc (.cells #[.int .i64 bx, .int .i64 b_] 23)).alloc (.cells #[.int .i64 cx, .int .i64 cy] 23)).alloc (.cells #[.int .i64 dx, .int .i64 dy] 23)) := (((((Below.refl w.heap.size w).alloc ν _).alloc (by simp; try omega) _).alloc (by simp; try omega) _).alloc (by simp; try omega) _)
 have X0 : Bx ((((w.alloc (.cells #[.int .i64 ax, .int .i64 ay] 23)).alloc (.cells #[.int .i64 bx, .int .i64 b_] 23)).alloc (.cells #[.int .i64 cx, .int .i64 cy] 23)).alloc (.cells #[.int .i64 dx, .int .i64 dy] 23)) (w.heap.size) #[.int .i64 ax, .int .i64 ay] 23 := by simpa using ((((Bx.new w #[.int .i64 ax, .int .i64 ay] 23).alloc _).alloc _).alloc _)
 have X1 : Bx ((((w.alloc (.cells #[.int .i64 ax, .int .i64 ay] 23)).alloc (.cells #[.int .i64 bx, .int .i64 b_] 23)).alloc (.cells #[.int .i64 cx, .int .i64 cy] 23)).alloc (.cells #[.int .i64 dx, .int .i64 dy] 23)) (w.heap.size + 1) #[.int .i64 bx, .int .i64 b_] 23 := by simpa using (((Bx.new (w.alloc (.cells #[.int .i64 ax, .int .i64 ay] 23)) #[.int .i64 bx, .int .i64 b_] 23).alloc _).alloc _)
 have X2 : Bx ((((w.alloc (.cells #[.int .i64 ax, .int .i64 ay] 23)).alloc (.cells #[.int .i64 bx, .int .i64 b_] 23)).alloc (.cells #[.int .i64 cx, .int .i64 cy] 23)).alloc (.cells #[.int .i64 dx, .int .i64 dy] 23)) (w.heap.size + 1 + 1) #[.int .i64 cx, .int .i64 cy] 23 := by simpa using ((Bx.new ((w.alloc (.cells #[.int .i64 ax, .int .i64 ay] 23)).alloc (.cells #[.int .i64 bx, .int .i64 b_] 23)) #[.int .i64 cx, .int .i64 cy] 23).alloc _)
 have X3 : Bx ((((w.alloc (.cells #[.int .i64 ax, .int .i64 ay] 23)).alloc (.cells #[.int .i64 bx, .int .i64 b_] 23)).alloc (.cells #[.int .i64 cx, .int .i64 cy] 23)).alloc (.cells #[.int .i64 dx, .int .i64 dy] 23)) (w.heap.size + 1 + 1 + 1) #[.int .i64 dx, .int .i64 dy] 23 := by simpa using (Bx.new (((w.alloc (.cells #[.int .i64 ax, .int .i64 ay] 23)).alloc (.cells #[.int .i64 bx, .int .i64 b_] 23)).alloc (.cells #[.int .i64 cx, .int .i64 cy] 23)) #[.int .i64 dx, .int .i64 dy] 23)
 have FT_1 := η (FT.out.below C ν)
 have HB1 := η B
 have FP_1 := η X0
 have FQ_1 := η X1
 have FR_1 := η X2
 have FV_1 := η X3
 clear B C X0 X1 X2 X3 HB0 FT
 generalize ((((w.alloc (.cells #[.int .i64 ax, .int .i64 ay] 23)).alloc (.cells #[.int .i64 bx, .int .i64 b_] 23)).alloc (.cells #[.int .i64 cx, .int .i64 cy] 23)).alloc (.cells #[.int .i64 dx, .int .i64 dy] 23)) = w1 at *
 have RB1 := η (Je w1)
 have QS1 := η (show w1.cell? ⟨w.heap.size, 0, none⟩ = some (.int .i64 ax) ∧ w1.cell? ⟨w.heap.size, 1, none⟩ = some (.int .i64 ay) ∧ w1.cell? ⟨w.heap.size + 1, 0, none⟩ = some (.int .i64 bx) ∧ w1.cell? ⟨w.heap.size + 1, 1, none⟩ = some (.int .i64 b_) ∧ w1.cell? ⟨w.heap.size + 1 + 1, 0, none⟩ = some (.int .i64 cx) ∧ w1.cell? ⟨w.heap.size + 1 + 1, 1, none⟩ = some (.int .i64 cy) ∧ w1.cell? ⟨w.heap.size + 1 + 1 + 1, 0, none⟩ = some (.int .i64 dx) ∧ w1.cell? ⟨w.heap.size + 1 + 1 + 1, 1, none⟩ = some (.int .i64 dy) from ⟨FP_1.out.cell 0 (v := .int .i64 ax) rfl, FP_1.out.cell 1 (v := .int .i64 ay) rfl, FQ_1.out.cell 0 (v := .int .i64 bx) rfl, FQ_1.out.cell 1 (v := .int .i64 b_) rfl, FR_1.out.cell 0 (v := .int .i64 cx) rfl, FR_1.out.cell 1 (v := .int .i64 cy) rfl, FV_1.out.cell 0 (v := .int .i64 dx) rfl, FV_1.out.cell 1 (v := .int .i64 dy) rfl⟩)
 have QF1 := η (show ∀ w', Below w1.heap.size w1 w' → w'.cell? ⟨w.heap.size, 0, none⟩ = some (.int .i64 ax) ∧ w'.cell? ⟨w.heap.size, 1, none⟩ = some (.int .i64 ay) ∧ w'.cell? ⟨w.heap.size + 1, 0, none⟩ = some (.int .i64 bx) ∧ w'.cell? ⟨w.heap.size + 1, 1, none⟩ = some (.int .i64 b_) ∧ w'.cell? ⟨w.heap.size + 1 + 1, 0, none⟩ = some (.int .i64 cx) ∧ w'.cell? ⟨w.heap.size + 1 + 1, 1, none⟩ = some (.int .i64 cy) ∧ w'.cell? ⟨w.heap.size + 1 + 1 + 1, 0, none⟩ = some (.int .i64 dx) ∧ w'.cell? ⟨w.heap.size + 1 + 1 + 1, 1, none⟩ = some (.int .i64 dy) from fun w' hb => ⟨(FP_1.out.below hb ν).cell 0 (v := .int .i64 ax) rfl, (FP_1.out.below hb ν).cell 1 (v := .int .i64 ay) rfl, (FQ_1.out.below hb ν).cell 0 (v := .int .i64 bx) rfl, (FQ_1.out.below hb ν).cell 1 (v := .int .i64 b_) rfl, (FR_1.out.below hb ν).cell 0 (v := .int .i64 cx) rfl, (FR_1.out.below hb ν).cell 1 (v := .int .i64 cy) rfl, (FV_1.out.below hb ν).cell 0 (v := .int .i64 dx) rfl, (FV_1.out.below hb ν).cell 1 (v := .int .i64 dy) rfl⟩)
 go_region_held3 (fun w' => w'.cell? ⟨w.heap.size, 0, none⟩ = some (.int .i64 ax) ∧ w'.cell? ⟨w.heap.size, 1, none⟩ = some (.int .i64 ay) ∧ w'.cell? ⟨w.heap.size + 1, 0, none⟩ = some (.int .i64 bx) ∧ w'.cell? ⟨w.heap.size + 1, 1, none⟩ = some (.int .i64 b_) ∧ w'.cell? ⟨w.heap.size + 1 + 1, 0, none⟩ = some (.int .i64 cx) ∧ w'.cell? ⟨w.heap.size + 1 + 1, 1, none⟩ = some (.int .i64 cy) ∧ w'.cell? ⟨w.heap.size + 1 + 1 + 1, 0, none⟩ = some (.int .i64 dx) ∧ w'.cell? ⟨w.heap.size + 1 + 1 + 1, 1, none⟩ = some (.int .i64 dy)) (first | with_reducible exact QF1.out _ RB3.out | with_reducible exact QF1.out _ RB2.out | with_reducible exact QS1.out | with_reducible exact QF1.out _ RB1.out) (first
   | (go_at_call 28; have := RB2; clear this; refine (JQ _ _ _ _ _ _ ⟨hp.a, hp.b, hp.c, hp.d, hp.e, hp.f⟩ _ (FT_1.out.below RB2.out ν)).mono ?_; rintro e w3 ⟨rfl, B⟩; have RB3 := η (RB2.out.trans (B.mono RB2.out.size)); clear B )
   | (go_at_call 144; have := RB1; clear this; refine (ZfO _ _ _ _ _ _ _ _ hp _ (FT_1.out.below RB1.out ν)).mono ?_; rintro e w2 ⟨rfl, B⟩; have RB2 := η (RB1.out.trans (B.mono RB1.out.size)); clear B ))
 have FT_3 := η (FT_1.out.below RB3.out ν)
 have FP_3 := η (FP_1.out.below RB3.out ν)
 have FQ_3 := η (FQ_1.out.below RB3.out ν)
 have FR_3 := η (FR_1.out.below RB3.out ν)
 have FV_3 := η (FV_1.out.below RB3.out ν)
 have HB3 := η (HB1.out.trans (RB3.out.mono HB1.out.size))
 clear HB1 FT_1 FP_1 FQ_1 FR_1 FV_1
 go_wp2_with fail
 go_ret
 exact ⟨rfl, HB3.out⟩
theorem ZiL : (Tryz.prog.info? 23).map (·.size) = some 2 := by kernel_rfl
theorem ZdI (b : Bool) : bits .xor .u64 IntKind.u64.max (msk b) = msk (!b) := by cases b <;> rfl
theorem ZjY (x : Int) : decide (IntKind.u64.wrap (sg x) = 0) = decide (x = 0) := by
 rw [decide_eq_decide, wrapU]; unfold lo sg
 rcases (by omega : x < 0 ∨ x = 0 ∨ 0 < x) with h | h | h
 ·rw [Int.sign_eq_neg_one_of_neg h]; omega
 ·subst h; simp
 ·rw [Int.sign_eq_one_of_pos h]; omega
theorem Ju (k a b : Int) (w : World) :
  Calls Tryz.prog 136 #[.pointer none, .int .i64 k, .int .i64 a, .int .i64 b] w fun e w' => e = .returned (.tuple #[]) ∧ w = w' := by
 go_enter Tryz.func136, Tryz.ntmps136
 go_wp2
 exact bodyPost_ret (results_none rfl _ _ _) rfl ⟨rfl, rfl⟩
theorem Zdj (A : Option Addr) (c : Nat) (ax ay bx b_ cx cy : Int) (w : World) (h3 : T3 w A c ax ay bx b_ cx cy) :
  Calls Tryz.prog 201 #[.slice A 3 c] w fun e w' => e = .returned (.tuple #[.agg #[.int .i64 ax, .int .i64 ay, .int .i64 bx, .int .i64 b_, .int .i64 cx, .int .i64 cy], .bool true]) ∧ Below w.heap.size w w' := by
 have h3' := (h3.alloc (.cells #[.int .i64 0, .int .i64 0, .int .i64 0, .int .i64 0, .int .i64 0, .int .i64 0] 262)).alloc (.cells #[.int .i64 0, .int .i64 0, .int .i64 0, .int .i64 0, .int .i64 0, .int .i64 0] 262)
 obtain ⟨b, off, rfl, hc6⟩ := h3'.at_
 have HS := η hc6.src
 clear hc6 h3' h3
 have HZ := η (Bx.new (w.alloc (.cells #[.int .i64 0, .int .i64 0, .int .i64 0, .int .i64 0, .int .i64 0, .int .i64 0] 262)) #[.int .i64 0, .int .i64 0, .int .i64 0, .int .i64 0, .int .i64 0, .int .i64 0] 262)
 have HY := η ((Bx.new w #[.int .i64 0, .int .i64 0, .int .i64 0, .int .i64 0, .int .i64 0, .int .i64 0] 262).alloc (.cells #[.int .i64 0, .int .i64 0, .int .i64 0, .int .i64 0, .int .i64 0, .int .i64 0] 262))
 have HB := η (((Below.refl w.heap.size w).alloc ν (.cells #[.int .i64 0, .int .i64 0, .int .i64 0, .int .i64 0, .int .i64 0, .int .i64 0] 262)).alloc (by simp) (.cells #[.int .i64 0, .int .i64 0, .int .i64 0, .int .i64 0, .int .i64 0, .int .i64 0] 262))
 obtain ⟨w2, hrun, h1, h2, hb2⟩ := ZhM (P := Tryz.prog) _ 29 29 3 23 Tryz.underlying29 ZiL (w.heap.size + 1) 3 3 ⟨b, off, none⟩ 3 c 3 #[.int .i64 0, .int .i64 0, .int .i64 0, .int .i64 0, .int .i64 0, .int .i64 0] 262 (by simpa using HZ.out) [.int .i64 ax, .int .i64 ay, .int .i64 bx, .int .i64 b_, .int .i64 cx, .int .i64 cy] rfl rfl HS.out rfl (by simp [Value.oneCell']) w.heap.size w HB.out (by omega)
 have H1 := η h1; have H2 := η h2; have HB3 := η hb2
 clear h1 h2 hb2 HS HZ HB
 have p0 := H1.out.cell 0 (v := .int .i64 ax) rfl
 have p1 := H1.out.cell 1 (v := .int .i64 ay) rfl
 have p2 := H1.out.cell 2 (v := .int .i64 bx) rfl
 have p3 := H1.out.cell 3 (v := .int .i64 b_) rfl
 have p4 := H1.out.cell 4 (v := .int .i64 cx) rfl
 have p5 := H1.out.cell 5 (v := .int .i64 cy) rfl
 have R := η (show Bx w2 w.heap.size #[.int .i64 0, .int .i64 0, .int .i64 0, .int .i64 0, .int .i64 0, .int .i64 0] 262 from (H2.out w.heap.size (by omega)).trans HY.out)
 have q0 := R.out.cell 0 (v := .int .i64 0) rfl; have z0 := R.out.free 0
 have q1 := R.out.cell 1 (v := .int .i64 0) rfl; have z1 := R.out.free 1
 have q2 := R.out.cell 2 (v := .int .i64 0) rfl; have z2 := R.out.free 2
 have q3 := R.out.cell 3 (v := .int .i64 0) rfl; have z3 := R.out.free 3
 have q4 := R.out.cell 4 (v := .int .i64 0) rfl; have z4 := R.out.free 4
 have q5 := R.out.cell 5 (v := .int .i64 0) rfl; have z5 := R.out.free 5
 clear H1 H2 HY
 have R6 := η (Zav (v0 := .int .i64 ax) (v1 := .int .i64 ay) (v2 := .int .i64 bx) (v3 := .int .i64 b_) (v4 := .int .i64 cx) (v5 := .int .i64 cy) R.out)
 have HB4 := η (show Below w.heap.size w (((((((w2.setCell ⟨w.heap.size, 0, none⟩ (.int .i64 ax)).setCell ⟨w.heap.size, 1, none⟩ (.int .i64 ay)).setCell ⟨w.heap.size, 2, none⟩ (.int .i64 bx)).setCell ⟨w.heap.size, 3, none⟩ (.int .i64 b_)).setCell ⟨w.heap.size, 4, none⟩ (.int .i64 cx)).setCell ⟨w.heap.size, 5, none⟩ (.int .i64 cy))) from (J9 ν (J9 ν (J9 ν (J9 ν (J9 ν (J9 ν HB3.out)))))))
 go_enter Tryz.func201, Tryz.ntmps201
 go_wp2_with fail
 clear p0 q0 z0 p1 q1 z1 p2 q2 z2 p3 q3 z3 p4 q4 z4 p5 q5 z5 hrun R HB3
 generalize ((((((w2.setCell ⟨w.heap.size, 0, none⟩ (.int .i64 ax)).setCell ⟨w.heap.size, 1, none⟩ (.int .i64 ay)).setCell ⟨w.heap.size, 2, none⟩ (.int .i64 bx)).setCell ⟨w.heap.size, 3, none⟩ (.int .i64 b_)).setCell ⟨w.heap.size, 4, none⟩ (.int .i64 cx)).setCell ⟨w.heap.size, 5, none⟩ (.int .i64 cy)) = w3 at *
 have r0 := R6.out.cell 0 (v := .int .i64 ax) rfl
 have r1 := R6.out.cell 1 (v := .int .i64 ay) rfl
 have r2 := R6.out.cell 2 (v := .int .i64 bx) rfl
 have r3 := R6.out.cell 3 (v := .int .i64 b_) rfl
 have r4 := R6.out.cell 4 (v := .int .i64 cx) rfl
 have r5 := R6.out.cell 5 (v := .int .i64 cy) rfl
 refine bodyPost_ret (v := .tuple #[.agg #[.int .i64 ax, .int .i64 ay, .int .i64 bx, .int .i64 b_, .int .i64 cx, .int .i64 cy], .bool true]) (by simp [results, Tryz.results201, go_sem, r0, r1, r2, r3, r4, r5]) rfl ⟨rfl, HB4.out⟩
theorem ZfQ (A : Option Addr) (c : Nat) (ax ay bx b_ cx cy : Int) (hp : P3 ax ay bx b_ cx cy) (w : World) (hT : TabM w) (h3 : T3 w A c ax ay bx b_ cx cy) :
  Calls Tryz.prog 200 #[.pointer none, .slice A 3 c] w fun e w' => e = .returned (.int .u64 (msk (!decide (det ax ay bx b_ cx cy = 0)))) ∧ Below w.heap.size w w' := by
 have HB0 := η (Below.refl w.heap.size w)
 have FT := η hT
 have FX := η h3
 clear hT h3
 have hnm := ZdI (decide (det ax ay bx b_ cx cy = 0))
 go_enter Tryz.func200, Tryz.ntmps200
 go_wp2_with fail
 refine (Zdj A c ax ay bx b_ cx cy _ FX.out).mono ?_
 rintro e w1 ⟨rfl, B⟩
 have HB1 := η (HB0.out.trans (B.mono HB0.out.size))
 have FT_1 := η (FT.out.below B ν)
 have FX_1 := η (FX.out.below B ν)
 clear B  HB0 FT FX
 go_wp2_with fail
 have B : Below w.heap.size w (w1.alloc (.cells #[.int .i64 ax, .int .i64 ay, .int .i64 bx, .int .i64 b_, .int .i64 cx, .int .i64 cy] 262)) := (HB1.out.alloc HB1.out.size _)
 have C : Below w1.heap.size w1 (w1.alloc (.cells #[.int .i64 ax, .int .i64 ay, .int .i64 bx, .int .i64 b_, .int .i64 cx, .int .i64 cy] 262)) := ((Below.refl w1.heap.size w1).alloc ν _)
 have X0 : Bx (w1.alloc (.cells #[.int .i64 ax, .int .i64 ay, .int .i64 bx, .int .i64 b_, .int .i64 cx, .int .i64 cy] 262)) (w1.heap.size) #[.int .i64 ax, .int .i64 ay, .int .i64 bx, .int .i64 b_, .int .i64 cx, .int .i64 cy] 262 := by simpa using (Bx.new w1 #[.int .i64 ax, .int .i64 ay, .int .i64 bx, .int .i64 b_, .int .i64 cx, .int .i64 cy] 262)
 have FT_2 := η (FT_1.out.below C ν)
 have HB2 := η B
 have FC_2 := η X0
 clear B C X0 HB1 FT_1
 generalize (w1.alloc (.cells #[.int .i64 ax, .int .i64 ay, .int .i64 bx, .int .i64 b_, .int .i64 cx, .int .i64 cy] 262)) = w2 at *
 skip
 refine (Ju _ _ _ _).mono ?_
 rintro e w3 ⟨rfl, rfl⟩
 have vC0 := FC_2.out.cell 0 (v := .int .i64 ax) rfl
 have vC1 := FC_2.out.cell 1 (v := .int .i64 ay) rfl
 have vC2 := FC_2.out.cell 2 (v := .int .i64 bx) rfl
 have vC3 := FC_2.out.cell 3 (v := .int .i64 b_) rfl
 have vC4 := FC_2.out.cell 4 (v := .int .i64 cx) rfl
 have vC5 := FC_2.out.cell 5 (v := .int .i64 cy) rfl
 go_wp2_with fail
 refine (JQ _ _ _ _ _ _ hp _ FT_2.out).mono ?_
 rintro e w4 ⟨rfl, B⟩
 clear vC0 vC1 vC2 vC3 vC4 vC5
 have HB4 := η (HB2.out.trans (B.mono HB2.out.size))
 have FT_4 := η (FT_2.out.below B ν)
 have FC_4 := η (FC_2.out.below B ν)
 clear B  HB2 FT_2 FC_2
 go_wp2_with fail
 refine (Zax _ (JO _) _).mono ?_
 rintro e w5 ⟨rfl, rfl⟩
 rw [ZjY]
 go_wp2_with fail
 go_ret
 exact ⟨rfl, HB4.out⟩
theorem Zf7 (A : Option Addr) (c : Nat) (ax ay bx b_ cx cy dx dy : Int) (hp : P4 ax ay bx b_ cx cy dx dy) (w : World) (hT : TabM w) (h3 : T3 w A c ax ay bx b_ cx cy) :
  Calls Tryz.prog 199 #[.pointer none, .slice A 3 c, .agg #[.int .i64 dx, .int .i64 dy]] w fun e w' => e = .returned (.int .i64 (sg (circ ax ay bx b_ cx cy dx dy) * sg (det ax ay bx b_ cx cy))) ∧ Below w.heap.size w w' := by
 have HB0 := η (Below.refl w.heap.size w)
 have FT := η hT
 have FX := η h3
 clear hT h3
 go_enter Tryz.func199, Tryz.ntmps199
 go_wp2_with fail
 have B : Below w.heap.size w (w.alloc (.cells #[.int .i64 dx, .int .i64 dy] 23)) := (HB0.out.alloc HB0.out.size _)
 have C : Below w.heap.size w (w.alloc (.cells #[.int .i64 dx, .int .i64 dy] 23)) := ((Below.refl w.heap.size w).alloc ν _)
 have X0 : Bx (w.alloc (.cells #[.int .i64 dx, .int .i64 dy] 23)) (w.heap.size) #[.int .i64 dx, .int .i64 dy] 23 := by simpa using (Bx.new w #[.int .i64 dx, .int .i64 dy] 23)
 have FT_1 := η (FT.out.below C ν)
 have FX_1 := η (FX.out.below C ν)
 have HB1 := η B
 have FP_1 := η X0
 clear B C X0 HB0 FT FX
 generalize (w.alloc (.cells #[.int .i64 dx, .int .i64 dy] 23)) = w1 at *
 skip
 refine (Zdj A c ax ay bx b_ cx cy _ FX_1.out).mono ?_
 rintro e w2 ⟨rfl, B⟩
 have HB2 := η (HB1.out.trans (B.mono HB1.out.size))
 have FT_2 := η (FT_1.out.below B ν)
 have FX_2 := η (FX_1.out.below B ν)
 have FP_2 := η (FP_1.out.below B ν)
 clear B  HB1 FT_1 FX_1 FP_1
 go_wp2_with fail
 have B : Below w.heap.size w (w2.alloc (.cells #[.int .i64 ax, .int .i64 ay, .int .i64 bx, .int .i64 b_, .int .i64 cx, .int .i64 cy] 262)) := (HB2.out.alloc HB2.out.size _)
 have C : Below w2.heap.size w2 (w2.alloc (.cells #[.int .i64 ax, .int .i64 ay, .int .i64 bx, .int .i64 b_, .int .i64 cx, .int .i64 cy] 262)) := ((Below.refl w2.heap.size w2).alloc ν _)
 have X0 : Bx (w2.alloc (.cells #[.int .i64 ax, .int .i64 ay, .int .i64 bx, .int .i64 b_, .int .i64 cx, .int .i64 cy] 262)) (w2.heap.size) #[.int .i64 ax, .int .i64 ay, .int .i64 bx, .int .i64 b_, .int .i64 cx, .int .i64 cy] 262 := by simpa using (Bx.new w2 #[.int .i64 ax, .int .i64 ay, .int .i64 bx, .int .i64 b_, .int .i64 cx, .int .i64 cy] 262)
 have FT_3 := η (FT_2.out.below C ν)
 have FP_3 := η (FP_2.out.below C ν)
 have HB3 := η B
 have FC_3 := η X0
 clear B C X0 HB2 FT_2 FP_2
 generalize (w2.alloc (.cells #[.int .i64 ax, .int .i64 ay, .int .i64 bx, .int .i64 b_, .int .i64 cx, .int .i64 cy] 262)) = w3 at *
 skip
 refine (Ju _ _ _ _).mono ?_
 rintro e w4 ⟨rfl, rfl⟩
 have vC0 := FC_3.out.cell 0 (v := .int .i64 ax) rfl
 have vC1 := FC_3.out.cell 1 (v := .int .i64 ay) rfl
 have vC2 := FC_3.out.cell 2 (v := .int .i64 bx) rfl
 have vC3 := FC_3.out.cell 3 (v := .int .i64 b_) rfl
 have vC4 := FC_3.out.cell 4 (v := .int .i64 cx) rfl
 have vC5 := FC_3.out.cell 5 (v := .int .i64 cy) rfl
 have vP0 := FP_3.out.cell 0 (v := .int .i64 dx) rfl
 have vP1 := FP_3.out.cell 1 (v := .int .i64 dy) rfl
 go_wp2_with fail
 refine (ZfP _ _ _ _ _ _ _ _ hp _ FT_3.out).mono ?_
 rintro e w5 ⟨rfl, B⟩
 clear vC0 vC1 vC2 vC3 vC4 vC5 vP0 vP1
 have HB5 := η (HB3.out.trans (B.mono HB3.out.size))
 have FT_5 := η (FT_3.out.below B ν)
 have FP_5 := η (FP_3.out.below B ν)
 have FC_5 := η (FC_3.out.below B ν)
 clear B  HB3 FT_3 FP_3 FC_3
 have vC0 := FC_5.out.cell 0 (v := .int .i64 ax) rfl
 have vC1 := FC_5.out.cell 1 (v := .int .i64 ay) rfl
 have vC2 := FC_5.out.cell 2 (v := .int .i64 bx) rfl
 have vC3 := FC_5.out.cell 3 (v := .int .i64 b_) rfl
 have vC4 := FC_5.out.cell 4 (v := .int .i64 cx) rfl
 have vC5 := FC_5.out.cell 5 (v := .int .i64 cy) rfl
 have vP0 := FP_5.out.cell 0 (v := .int .i64 dx) rfl
 have vP1 := FP_5.out.cell 1 (v := .int .i64 dy) rfl
 go_wp2_with fail
 go_ret
 exact ⟨rfl, HB5.out⟩
def edg (f g : Nat → Int) (n i : Nat) (x y : Int) : Int := det (f i) (g i) (f ((i + 1) % n)) (g ((i + 1) % n)) x y
def inP (n : Nat) : Prop := 3 ≤ n ∧ n ≤ 64
instance (n : Nat) : Decidable (inP n) := inferInstanceAs (Decidable (_ ∧ _))
def ori (f g : Nat → Int) (n : Nat) : Int := if inP n then sg (det (f 0) (g 0) (f 1) (g 1) (f 2) (g 2)) else 0
def allB (p : Nat → Bool) : Nat → Bool
 | 0 => true
 | k + 1 => allB p k && p k
def anyB (p : Nat → Bool) : Nat → Bool
 | 0 => false
 | k + 1 => anyB p k || p k
theorem Zbc (p : Nat → Bool) : ∀ k, allB p k = true ↔ ∀ i, i < k → p i = true
 | 0 => by simp [allB]
 | k + 1 => by
  simp only [allB, Bool.and_eq_true, Zbc p k]
  constructor
  ·rintro ⟨h1, h2⟩ i hi
   rcases (by omega : i < k ∨ i = k) with h | rfl
   ·exact h1 i h
   ·exact h2
  ·intro h; exact ⟨fun i hi => h i (by omega), h k (by omega)⟩
theorem Zf8 (p : Nat → Bool) : ∀ k, anyB p k = true ↔ ∃ i, i < k ∧ p i = true
 | 0 => by simp [anyB]
 | k + 1 => by
  simp only [anyB, Bool.or_eq_true, Zf8 p k]
  constructor
  ·rintro (⟨i, h1, h2⟩ | h)
   ·exact ⟨i, by omega, h2⟩
   ·exact ⟨k, by omega, h⟩
  ·rintro ⟨i, h1, h2⟩
   rcases (by omega : i < k ∨ i = k) with h | rfl
   ·exact .inl ⟨i, h, h2⟩
   ·exact .inr h2
def skip (n i j : Nat) : Bool := decide (j = i) || decide (j = (i + 1) % n)
def okAt (f g : Nat → Int) (n : Nat) (s : Int) (i j : Nat) : Bool := skip n i j || decide (sg (edg f g n i (f j) (g j)) = s)
def JU (f g : Nat → Int) (n : Nat) : Bool := decide (inP n) && !decide (ori f g n = 0) && allB (fun i => allB (okAt f g n (ori f g n) i) n) n
def Jm (f g : Nat → Int) (n : Nat) (x y : Int) (i : Nat) : Int := ori f g n * sg (edg f g n i x y)
def locP (f g : Nat → Int) (n : Nat) (x y : Int) : Int := if inP n then sgnM (anyB (fun i => decide (Jm f g n x y i < 0)) n) (anyB (fun i => decide (Jm f g n x y i = 0)) n) else -1
theorem Zbd (x : Int) : sg x = -1 ∨ sg x = 0 ∨ sg x = 1 := by
 unfold sg
 rcases (by omega : x < 0 ∨ x = 0 ∨ 0 < x) with h | rfl | h
 ·exact .inl (Int.sign_eq_neg_one_of_neg h)
 ·exact .inr (.inl rfl)
 ·exact .inr (.inr (Int.sign_eq_one_of_pos h))
theorem Zbl (f g : Nat → Int) (n : Nat) : ori f g n = -1 ∨ ori f g n = 0 ∨ ori f g n = 1 := by
 unfold ori; split
 ·exact Zbd _
 ·exact .inr (.inl rfl)
theorem Zbu (f g : Nat → Int) (n : Nat) (x y : Int) (i : Nat) : Jm f g n x y i = -1 ∨ Jm f g n x y i = 0 ∨ Jm f g n x y i = 1 := by
 unfold Jm
 rcases Zbl f g n with h | h | h <;> rcases Zbd (edg f g n i x y) with h2 | h2 | h2 <;> rw [h, h2] <;> decide
def minS (q : Nat → Int) : Nat → Int
 | 0 => 1
 | k + 1 => min (minS q k) (q k)
theorem Zg9 (q : Nat → Int) (hq : ∀ i, q i = -1 ∨ q i = 0 ∨ q i = 1) : ∀ k, minS q k = sgnM (anyB (fun i => decide (q i < 0)) k) (anyB (fun i => decide (q i = 0)) k)
 | 0 => rfl
 | k + 1 => by
  rw [minS, Zg9 q hq k]
  simp only [anyB]
  cases anyB (fun i => decide (q i < 0)) k <;> cases anyB (fun i => decide (q i = 0)) k <;> rcases hq k with h | h | h <;> rw [h] <;> decide
theorem Zhc {f g : Nat → Int} {n : Nat} (h : inP n) : ori f g n = sg (det (f 0) (g 0) (f 1) (g 1) (f 2) (g 2)) := by unfold ori; rw [if_pos h]
theorem ZdJ {f g : Nat → Int} {n : Nat} (h : ¬ inP n) : ori f g n = 0 := by unfold ori; rw [if_neg h]
theorem Zdk {f g : Nat → Int} {n : Nat} (h : ¬ inP n) : JU f g n = false := by unfold JU; simp [h]
theorem Zi1 {f g : Nat → Int} {n : Nat} {x y : Int} (h : ¬ inP n) : locP f g n x y = -1 := by unfold locP; rw [if_neg h]
theorem ZiM {f g : Nat → Int} {n : Nat} {x y : Int} (h : inP n) : locP f g n x y = minS (Jm f g n x y) n := by
 unfold locP; rw [if_pos h, Zg9 _ (Zbu f g n x y)]
theorem ZgC {f g : Nat → Int} {n : Nat} : JU f g n = true ↔ inP n ∧ ori f g n ≠ 0 ∧ ∀ i j, i < n → j < n → j ≠ i → j ≠ (i + 1) % n → sg (edg f g n i (f j) (g j)) = ori f g n := by
 unfold JU
 simp only [Bool.and_eq_true, decide_eq_true_eq, Bool.not_eq_true', decide_eq_false_iff_not, Zbc, okAt, skip, Bool.or_eq_true]
 constructor
 ·rintro ⟨⟨h1, h2⟩, h3⟩
  refine ⟨h1, h2, fun i j hi hj h4 h5 => ?_⟩
  rcases h3 i hi j hj with (h | h) | h
  ·exact absurd h h4
  ·exact absurd h h5
  ·exact h
 ·rintro ⟨h1, h2, h3⟩
  refine ⟨⟨h1, h2⟩, fun i hi j hj => ?_⟩
  by_cases h4 : j = i
  ·exact .inl (.inl h4)
  ·by_cases h5 : j = (i + 1) % n
   ·exact .inl (.inr h5)
   ·exact .inr (h3 i j hi hj h4 h5)
end Go.Proofs.YtjdiilkljgljkaaGreatDoor
namespace Go.Proofs.YtjdiilkljgljkaaGreatDoor
set_option linter.unusedVariables false
set_option linter.unusedSimpArgs false
open Go.RowKit Wd Go.Shelf
attribute [local go_sem] Oper.semAt_some
structure Pt1 (w : World) (b o : Nat) (x y : Int) : Prop where
 lt : b < w.heap.size
 x : w.cell? ⟨b, o, none⟩ = some (.int .i64 x)
 y : w.cell? ⟨b, o + 1, none⟩ = some (.int .i64 y)
theorem Pt1.below {w w' : World} {B b o : Nat} {x y : Int} (h : Pt1 w b o x y) (hb : Below B w w') (hB : w.heap.size ≤ B) : Pt1 w' b o x y := by
 have hlt := h.lt
 exact ⟨Nat.lt_of_lt_of_le h.lt hb.size, (hb.cell (p := ⟨b, o, none⟩) (by show b < B; omega)).trans h.x, (hb.cell (p := ⟨b, o + 1, none⟩) (by show b < B; omega)).trans h.y⟩
def Zbm (f g : Nat → Int) (n i : Nat) : Value := .agg #[.int .i64 (i : Int), .int .i64 (((i + 1) % n : Nat) : Int), .int .i64 (f i), .int .i64 (g i), .int .i64 (f ((i + 1) % n)), .int .i64 (g ((i + 1) % n))]
def fup (n k : Nat) : List (Fin n) := (List.range k).filterMap fun i => if h : i < n then some ⟨i, h⟩ else none
theorem ZaK {n k : Nat} (h : k < n) : fup n (k + 1) = fup n k ++ [⟨k, h⟩] := by
 unfold fup; rw [List.range_succ, List.filterMap_append]; simp [h]
theorem Zga {n : Nat} : ∀ {k}, k ≤ n → (fup n k).length = k
 | 0, _ => rfl
 | k + 1, h => by rw [ZaK (by omega), List.length_append, Zga (by omega)]; rfl
def KpE (B Bv : Nat) (W W' : World) : Prop := Below B W W' ∧ W'.heap[Bv]? = W.heap[Bv]?
theorem KpE.trans {B Bv : Nat} {X Y Z : World} (h : KpE B Bv X Y) (k : KpE B Bv Y Z) : KpE B Bv X Z := ⟨h.1.trans k.1, k.2.trans h.2⟩
theorem KpE.rf (B Bv : Nat) (W : World) : KpE B Bv W W := ⟨Below.refl _ _, rfl⟩
theorem KpE.dr {B Bv : Nat} {W W' : World} (h : KpE B Bv W W') : KpE B Bv W W'.drew := ⟨h.1.drew, h.2⟩
theorem ZcZ (a b : Nat) : ((a : Int) + 1).tmod (b : Int) = (((a + 1) % b : Nat) : Int) := by
 rw [Int.tmod_eq_emod_of_nonneg (by omega)]; simp
set_option maxRecDepth 100000 in
theorem Zhd (m l Bv : Nat) (hm : 1 ≤ m) (r : World) (A : Option Addr) (n c : Nat) (f g : Nat → Int) (hp : Pts r A n c f g) (hin : inP n) (J Jx : List (Fin n) → World → Prop) (hJd : ∀ s W, J s W → J s W.drew)
  (hY : ∀ pre (x : Fin n) W, J pre W → pre.length < n → YieldAt Fence.wide (m - 1) Tryz.prog l #[Zbm f g n x] W fun e W' => (e = .returned (.bool true) ∧ J (pre ++ [x]) W' ∧ KpE r.heap.size Bv W W') ∨ (e = .returned (.bool false) ∧ Jx (pre ++ [x]) W'))
  (W : World) (hb : Below r.heap.size r W) (hB : Bx W Bv #[.slice A n c] 29) (h0 : J [] W) :
  CallsIn Fence.wide m Tryz.prog 175 #[.func (.yield l) #[] #[], .pointer (some ⟨Bv, 0, none⟩)] W fun e W' => (∃ v, e = .returned v) ∧ ((∃ ys, ys = fup n n ∧ J ys W') ∨ (∃ pre, (∃ k, k ≤ n ∧ pre = fup n k) ∧ Jx pre W')) := by
 have hn3 := hin.1; have hn64 := hin.2
 obtain ⟨b, off, rfl, hlt, hc⟩ := hp.at_ (by omega)
 have HB := η hb; have HBX := η hB; have HC := η hc; have HLT := η hlt
 clear hb hc hlt
 have q1 : ¬ ((n : Int) < 3) := by omega
 have q2 : ¬ ((64 : Int) < n) := by omega
 have bc := hB.cell 0 (v := .slice (some ⟨b, off, none⟩) n c) rfl
 clear hB
 refine callsIn_of_wp Tryz.func175 rfl trivial ?_ rfl
 simp only [Tryz.ntmps175, List.size_toArray, List.length_cons, List.length_nil, Nat.reduceAdd, Nat.reduceSub, Array.replicate_succ, Array.replicate_zero, List.push_toArray, List.append_toArray, List.nil_append, List.cons_append]
 gi_wp2
 clear bc
 gi_loopw [16] (fun i wr => ∃ k : Nat, k ≤ n ∧ i = .int .i64 k ∧ J (fup n k) wr ∧ KpE r.heap.size Bv W wr) (fun i _ => n - (intOf i).toNat)
 case atStart => exact ⟨0, Nat.zero_le _, rfl, h0, KpE.rf _ _ _⟩
 case round =>
  obtain ⟨k, hk, rfl, hJs, hnx⟩ := hrel
  by_cases hlt : k < n
  ·have hk2 : (k + 1) % n < n := Nat.mod_lt _ (by omega)
   have hmod := ZcZ k n
   have hw1 : wrap64 ((k : Int) + 1) = (k : Int) + 1 := by rw [← IntWalk.i64_left, IntKind.wrap_i64]; omega
   have hw2 : IntKind.i64.wrap ((k : Int) + 1) = (k : Int) + 1 := by rw [IntKind.wrap_i64]; omega
   have hw3 : wrap64 (((k + 1) % n : Nat) : Int) = (((k + 1) % n : Nat) : Int) := by rw [← IntWalk.i64_left, IntKind.wrap_i64]; omega
   have hw4 : IntKind.i64.wrap (((k + 1) % n : Nat) : Int) = (((k + 1) % n : Nat) : Int) := by rw [IntKind.wrap_i64]; omega
   have FB := η (show Bx wr Bv #[.slice (some ⟨b, off, none⟩) n c] 29 from hnx.2.trans HBX.out)
   have FE := η ((Pt1.mk HLT.out (HC.out k hlt).1 (HC.out k hlt).2).below (HB.out.trans hnx.1) ν)
   have FG := η ((Pt1.mk HLT.out (HC.out _ hk2).1 (HC.out _ hk2).2).below (HB.out.trans hnx.1) ν)
   have HNX := η hnx; clear hnx
   have EV := η (show Zbm f g n k = .agg #[.int .i64 (k : Int), .int .i64 (((k + 1) % n : Nat) : Int), .int .i64 (f k), .int .i64 (g k), .int .i64 (f ((k + 1) % n)), .int .i64 (g ((k + 1) % n))] from rfl)
   generalize hK2 : (k + 1) % n = k2 at *
   gi_wp2
   refine wpIn_region_any (by kernel_rfl) ?_
   change wpAnyIn _ _ _ _ _ _ _ _ _ (World.drew _)
   have RB1 := η (Je wr)
   refine Jk WideF.wide (fun a b => a = b) (fun _ => rfl) (fun _ _ _ h k => h.trans k) [⟨0, 23, fun z_ _ => z_ = .func (.yield l) #[] #[]⟩, ⟨1, 24, fun z_ _ => z_ = .int .i64 (k : Int)⟩, ⟨2, 25, fun z_ _ => z_ = .int .i64 (k2 : Int)⟩, ⟨3, 26, fun z_ _ => z_ = .slice (some ⟨b, off, none⟩) n c⟩, ⟨4, 27, fun z_ _ => z_ = .int .i64 (k : Int)⟩, ⟨5, 28, fun z_ _ => z_ = .pointer (some ⟨b, off + k * 2, none⟩)⟩, ⟨6, 29, fun z_ _ => z_ = .agg #[.int .i64 (f k), .int .i64 (g k)]⟩, ⟨7, 30, fun z_ _ => z_ = .slice (some ⟨b, off, none⟩) n c⟩, ⟨8, 31, fun z_ _ => z_ = .int .i64 (k2 : Int)⟩, ⟨9, 32, fun z_ _ => z_ = .pointer (some ⟨b, off + k2 * 2, none⟩)⟩, ⟨10, 33, fun z_ _ => z_ = .agg #[.int .i64 (f k2), .int .i64 (g k2)]⟩, ⟨11, 34, fun z_ _ => z_ = .agg #[.int .i64 (k : Int), .int .i64 (k2 : Int), .int .i64 (f k), .int .i64 (g k), .int .i64 (f k2), .int .i64 (g k2)]⟩] 12 (by kernel_rfl) ?_ ?_ ?_
   ·refine ⟨?_, ?_, ?_, ?_, ?_, ?_, ?_, ?_, ?_, ?_, ?_, ?_, trivial⟩
    all_goals (intro x w w' hb h; first | exact h | (obtain ⟨b_, h1, h2⟩ := h; exact ⟨b_, h1, h2.below hb ν⟩))
   ·refine ⟨?_, ?_, ?_, ?_, ?_, ?_, ?_, ?_, ?_, ?_, ?_, ?_, trivial⟩
    ·intro a wz K hb ht hd hK
     have hbw := η (show Below wr.heap.size wr wz from hb ▸ RB1.out); clear hb
     have hx0 := (ht 0 rfl).trans rfl
     have es0 : a.tmps.getD 0 undef = _ := J7 hx0; clear hx0
     clear ht hd
     have HK := η hK; clear hK
     refine oP (fun K' HK' => ?_)
     go_simp
     exact HK'.out _ _ (HK.out _ _ rfl rfl)
    ·intro a wz K hb ht hd hK
     have hbw := η (show Below wr.heap.size wr wz from hb ▸ RB1.out); clear hb
     have hx4 := (ht 4 rfl).trans rfl
     have es4 : a.tmps.getD 4 undef = _ := J7 hx4; clear hx4
     clear ht hd
     have HK := η hK; clear hK
     refine oP (fun K' HK' => ?_)
     go_simp
     exact HK'.out _ _ (HK.out _ _ rfl rfl)
    ·intro a wz K hb ht hd hK
     have hbw := η (show Below wr.heap.size wr wz from hb ▸ RB1.out); clear hb
     have hx5 := (ht 5 rfl).trans rfl
     have es5 : a.tmps.getD 5 undef = _ := J7 hx5; clear hx5
     clear ht hd
     have HK := η hK; clear hK
     refine oP (fun K' HK' => ?_)
     go_simp
     exact HK'.out _ _ (HK.out _ _ rfl rfl)
    ·intro a wz K hb ht hd hK
     have hbw := η (show Below wr.heap.size wr wz from hb ▸ RB1.out); clear hb
     have hx1 := (ht 1 rfl).trans rfl
     have es1 : a.tmps.getD 1 undef = _ := J7 hx1; clear hx1
     clear ht hd
     have zc0 := (FB.out.below hbw.out ν).cell 0 (v := .slice (some ⟨b, off, none⟩) n c) rfl
     have HK := η hK; clear hK
     refine oP (fun K' HK' => ?_)
     go_simp
     exact HK'.out _ _ (HK.out _ _ rfl rfl)
    ·intro a wz K hb ht hd hK
     have hbw := η (show Below wr.heap.size wr wz from hb ▸ RB1.out); clear hb
     have hx4 := (ht 4 rfl).trans rfl
     have es4 : a.tmps.getD 4 undef = _ := J7 hx4; clear hx4
     clear ht hd
     have HK := η hK; clear hK
     refine oP (fun K' HK' => ?_)
     go_simp
     exact HK'.out _ _ (HK.out _ _ rfl rfl)
    ·intro a wz K hb ht hd hK
     have hbw := η (show Below wr.heap.size wr wz from hb ▸ RB1.out); clear hb
     obtain ⟨x26, hx26, hp26⟩ := hd 3 _ rfl (by kernel_rfl)
     obtain rfl := hp26
     have es26 : a.tmps.getD 26 undef = _ := J7 hx26; clear hx26
     obtain ⟨x27, hx27, hp27⟩ := hd 4 _ rfl (by kernel_rfl)
     obtain rfl := hp27
     have es27 : a.tmps.getD 27 undef = _ := J7 hx27; clear hx27
     clear ht hd
     have HK := η hK; clear hK
     refine oP (fun K' HK' => ?_)
     go_simp
     exact HK'.out _ _ (HK.out _ _ rfl rfl)
    ·intro a wz K hb ht hd hK
     have hbw := η (show Below wr.heap.size wr wz from hb ▸ RB1.out); clear hb
     obtain ⟨x28, hx28, hp28⟩ := hd 5 _ rfl (by kernel_rfl)
     obtain rfl := hp28
     have es28 : a.tmps.getD 28 undef = _ := J7 hx28; clear hx28
     clear ht hd
     have zc0 := (FE.out.below hbw.out ν).x
     have zc1 := (FE.out.below hbw.out ν).y
     have HK := η hK; clear hK
     refine oP (fun K' HK' => ?_)
     go_simp
     exact HK'.out _ _ (HK.out _ _ rfl rfl)
    ·intro a wz K hb ht hd hK
     have hbw := η (show Below wr.heap.size wr wz from hb ▸ RB1.out); clear hb
     have hx1 := (ht 1 rfl).trans rfl
     have es1 : a.tmps.getD 1 undef = _ := J7 hx1; clear hx1
     clear ht hd
     have zc0 := (FB.out.below hbw.out ν).cell 0 (v := .slice (some ⟨b, off, none⟩) n c) rfl
     have HK := η hK; clear hK
     refine oP (fun K' HK' => ?_)
     go_simp
     exact HK'.out _ _ (HK.out _ _ rfl rfl)
    ·intro a wz K hb ht hd hK
     have hbw := η (show Below wr.heap.size wr wz from hb ▸ RB1.out); clear hb
     have hx5 := (ht 5 rfl).trans rfl
     have es5 : a.tmps.getD 5 undef = _ := J7 hx5; clear hx5
     clear ht hd
     have HK := η hK; clear hK
     refine oP (fun K' HK' => ?_)
     go_simp
     exact HK'.out _ _ (HK.out _ _ rfl rfl)
    ·intro a wz K hb ht hd hK
     have hbw := η (show Below wr.heap.size wr wz from hb ▸ RB1.out); clear hb
     obtain ⟨x30, hx30, hp30⟩ := hd 7 _ rfl (by kernel_rfl)
     obtain rfl := hp30
     have es30 : a.tmps.getD 30 undef = _ := J7 hx30; clear hx30
     obtain ⟨x31, hx31, hp31⟩ := hd 8 _ rfl (by kernel_rfl)
     obtain rfl := hp31
     have es31 : a.tmps.getD 31 undef = _ := J7 hx31; clear hx31
     clear ht hd
     have HK := η hK; clear hK
     refine oP (fun K' HK' => ?_)
     go_simp
     exact HK'.out _ _ (HK.out _ _ rfl rfl)
    ·intro a wz K hb ht hd hK
     have hbw := η (show Below wr.heap.size wr wz from hb ▸ RB1.out); clear hb
     obtain ⟨x32, hx32, hp32⟩ := hd 9 _ rfl (by kernel_rfl)
     obtain rfl := hp32
     have es32 : a.tmps.getD 32 undef = _ := J7 hx32; clear hx32
     clear ht hd
     have zc0 := (FG.out.below hbw.out ν).x
     have zc1 := (FG.out.below hbw.out ν).y
     have HK := η hK; clear hK
     refine oP (fun K' HK' => ?_)
     go_simp
     exact HK'.out _ _ (HK.out _ _ rfl rfl)
    ·intro a wz K hb ht hd hK
     have hbw := η (show Below wr.heap.size wr wz from hb ▸ RB1.out); clear hb
     obtain ⟨x24, hx24, hp24⟩ := hd 1 _ rfl (by kernel_rfl)
     obtain rfl := hp24
     have es24 : a.tmps.getD 24 undef = _ := J7 hx24; have et24 := Zcx hx24; clear hx24
     obtain ⟨x25, hx25, hp25⟩ := hd 2 _ rfl (by kernel_rfl)
     obtain rfl := hp25
     have es25 : a.tmps.getD 25 undef = _ := J7 hx25; have et25 := Zcx hx25; clear hx25
     obtain ⟨x29, hx29, hp29⟩ := hd 6 _ rfl (by kernel_rfl)
     obtain rfl := hp29
     have es29 : a.tmps.getD 29 undef = _ := J7 hx29; have et29 := Zcx hx29; clear hx29
     obtain ⟨x33, hx33, hp33⟩ := hd 10 _ rfl (by kernel_rfl)
     obtain rfl := hp33
     have es33 : a.tmps.getD 33 undef = _ := J7 hx33; have et33 := Zcx hx33; clear hx33
     clear ht hd
     have HK := η hK; clear hK
     refine oP (fun K' HK' => ?_)
     go_simp
     exact HK'.out _ _ (HK.out _ _ rfl rfl)
   intro w2 X hb hv
   simp only [List.foldl_cons, List.foldl_nil, Act.put, List.setIfInBounds_toArray, List.set_cons_zero, List.set_cons_succ, List.toList_toArray, List.drop_succ_cons, List.drop_zero]
   obtain ⟨hv0, hv1, hv2, hv3, hv4, hv5, hv6, hv7, hv8, hv9, hv10, hv11, -⟩ := hv
   have hV0 : (fun z_ _ => z_ = .func (.yield l) #[] #[]) (X 23) w2 := hv0; clear hv0; have hv0 := hV0; clear hV0; generalize X 23 = X23 at *
   have hV1 : (fun z_ _ => z_ = .int .i64 (k : Int)) (X 24) w2 := hv1; clear hv1; have hv1 := hV1; clear hV1; generalize X 24 = X24 at *
   have hV2 : (fun z_ _ => z_ = .int .i64 (k2 : Int)) (X 25) w2 := hv2; clear hv2; have hv2 := hV2; clear hV2; generalize X 25 = X25 at *
   have hV3 : (fun z_ _ => z_ = .slice (some ⟨b, off, none⟩) n c) (X 26) w2 := hv3; clear hv3; have hv3 := hV3; clear hV3; generalize X 26 = X26 at *
   have hV4 : (fun z_ _ => z_ = .int .i64 (k : Int)) (X 27) w2 := hv4; clear hv4; have hv4 := hV4; clear hV4; generalize X 27 = X27 at *
   have hV5 : (fun z_ _ => z_ = .pointer (some ⟨b, off + k * 2, none⟩)) (X 28) w2 := hv5; clear hv5; have hv5 := hV5; clear hV5; generalize X 28 = X28 at *
   have hV6 : (fun z_ _ => z_ = .agg #[.int .i64 (f k), .int .i64 (g k)]) (X 29) w2 := hv6; clear hv6; have hv6 := hV6; clear hV6; generalize X 29 = X29 at *
   have hV7 : (fun z_ _ => z_ = .slice (some ⟨b, off, none⟩) n c) (X 30) w2 := hv7; clear hv7; have hv7 := hV7; clear hV7; generalize X 30 = X30 at *
   have hV8 : (fun z_ _ => z_ = .int .i64 (k2 : Int)) (X 31) w2 := hv8; clear hv8; have hv8 := hV8; clear hV8; generalize X 31 = X31 at *
   have hV9 : (fun z_ _ => z_ = .pointer (some ⟨b, off + k2 * 2, none⟩)) (X 32) w2 := hv9; clear hv9; have hv9 := hV9; clear hV9; generalize X 32 = X32 at *
   have hV10 : (fun z_ _ => z_ = .agg #[.int .i64 (f k2), .int .i64 (g k2)]) (X 33) w2 := hv10; clear hv10; have hv10 := hV10; clear hV10; generalize X 33 = X33 at *
   have hV11 : (fun z_ _ => z_ = .agg #[.int .i64 (k : Int), .int .i64 (k2 : Int), .int .i64 (f k), .int .i64 (g k), .int .i64 (f k2), .int .i64 (g k2)]) (X 34) w2 := hv11; clear hv11; have hv11 := hV11; clear hV11; generalize X 34 = X34 at *
   obtain rfl := hv0
   obtain rfl := hv1
   obtain rfl := hv2
   obtain rfl := hv3
   obtain rfl := hv4
   obtain rfl := hv5
   obtain rfl := hv6
   obtain rfl := hv7
   obtain rfl := hv8
   obtain rfl := hv9
   obtain rfl := hv10
   obtain rfl := hv11
   have RC := η (show Below wr.heap.size wr w2 from hb ▸ RB1.out)
   have HE := η hb; clear hb
   have FB_2 := η (FB.out.below RC.out ν)
   have FE_2 := η (FE.out.below RC.out ν)
   have FG_2 := η (FG.out.below RC.out ν)
   clear  FB FE FG RB1
   have hJ1 := hJd _ _ hJs; rw [HE.out] at hJ1
   obtain ⟨fn, tmps, assign, body, hy, hR⟩ := hY _ ⟨k, hlt⟩ w2 hJ1 (by rw [Zga (by omega)]; exact hlt)
   rw [show Zbm f g n (⟨k, hlt⟩ : Fin n) = _ from EV.out] at hy
   gi_wp2
   refine hR.mono ?_
   rintro e W3 (⟨rfl, hJ3, hk3⟩ | ⟨rfl, hJx3⟩)
   ·gi_wp2
    go_roundw
    case rel => exact ⟨k + 1, by omega, by simp, by rw [ZaK hlt]; exact hJ3, (HE.out ▸ HNX.out.dr).trans hk3⟩
    case measure => simp [intOf]; omega
   ·gi_wp2
    refine bodyPost_ret (results_none rfl _ _ _) rfl ?_
    exact ⟨⟨_, rfl⟩, .inr ⟨_, ⟨k + 1, by omega, (ZaK hlt).symm⟩, hJx3⟩⟩
  ·obtain rfl : k = n := by omega
   gi_wp2
   go_end0
   exact ⟨⟨_, rfl⟩, .inl ⟨_, rfl, hJs⟩⟩
set_option maxRecDepth 100000 in
theorem ZgD (m l Bv : Nat) (A : Option Addr) (n c : Nat) (hn : n ≤ maxLen) (hin : ¬ inP n) {J : World → Prop} (W : World) (hB : Bx W Bv #[.slice A n c] 29) (h0 : J W) :
  CallsIn Fence.wide m Tryz.prog 175 #[.func (.yield l) #[] #[], .pointer (some ⟨Bv, 0, none⟩)] W fun e W' => (∃ v, e = .returned v) ∧ J W' := by
 have bc := hB.cell 0 (v := .slice A n c) rfl
 clear hB
 unfold inP at hin
 rcases (by omega : n < 3 ∨ (3 ≤ n ∧ 64 < n)) with h | ⟨h2, h⟩
 ·have q1 : (n : Int) < 3 := by omega
  refine callsIn_of_wp Tryz.func175 rfl trivial ?_ rfl
  simp only [Tryz.ntmps175, List.size_toArray, List.length_cons, List.length_nil, Nat.reduceAdd, Nat.reduceSub, Array.replicate_succ, Array.replicate_zero, List.push_toArray, List.append_toArray, List.nil_append, List.cons_append]
  gi_wp2
  refine bodyPost_ret (results_none rfl _ _ _) rfl ?_
  exact ⟨⟨_, rfl⟩, h0⟩
 ·have q1 : ¬ ((n : Int) < 3) := by omega
  have q2 : (64 : Int) < n := by omega
  refine callsIn_of_wp Tryz.func175 rfl trivial ?_ rfl
  simp only [Tryz.ntmps175, List.size_toArray, List.length_cons, List.length_nil, Nat.reduceAdd, Nat.reduceSub, Array.replicate_succ, Array.replicate_zero, List.push_toArray, List.append_toArray, List.nil_append, List.cons_append]
  gi_wp2
  refine bodyPost_ret (results_none rfl _ _ _) rfl ?_
  exact ⟨⟨_, rfl⟩, h0⟩
theorem ZgE (W : World) : W.grownBy W.drew none := ⟨rfl, rfl, rfl, Nat.le_refl _, fun _ _ _ => rfl⟩
def eds (n : Nat) : List (Fin n) := if inP n then fup n n else []
theorem ZcI (m Bv : Nat) (hm : 1 ≤ m) (r : World) (A : Option Addr) (n c : Nat) (f g : Nat → Int) (hp : Pts r A n c f g) (w : World) (hb : Below r.heap.size r w) (hB : Bx w Bv #[.slice A n c] 29) :
  SeqStopsK Fence.wide m Tryz.prog 175 #[.pointer (some ⟨Bv, 0, none⟩)] (fun x : Fin n => #[Zbm f g n x]) (KpE r.heap.size Bv) (fun xs => xs = eds n) (fun _ => True) n w := fun l J Jx W hW hJ _ hY h0 => by
 have hbW := hb.trans (hW.mono hb.size)
 have hBW := hB.below hW ν
 by_cases hin : inP n
 ·refine (Zhd m l Bv hm r A n c f g hp hin J Jx (fun s W h => hJ s W _ none h (ZgE W) (by simp)) hY W hbW hBW h0).mono ?_
  rintro e W' ⟨he, ⟨ys, rfl, hj⟩ | ⟨pre, _, hj⟩⟩
  ·exact ⟨he, .inl ⟨_, by rw [eds, if_pos hin], hj⟩⟩
  ·exact ⟨he, .inr ⟨_, trivial, hj⟩⟩
 ·refine (ZgD m l Bv A n c (Nat.le_trans hp.cap hp.max) hin W hBW (J := J []) h0).mono ?_
  rintro e W' ⟨he, hj⟩
  exact ⟨he, .inl ⟨[], by rw [eds, if_neg hin], hj⟩⟩
theorem Zc1 (A : Option Addr) (n c : Nat) (w : World) : Calls Tryz.prog 172 #[.slice A n c] w fun e w' => e = .returned (.func (.func 175) #[] #[.pointer (some ⟨w.heap.size, 0, none⟩)]) ∧ w' = w.alloc (.cells #[.slice A n c] 29) := by
 go_enter Tryz.func172, Tryz.ntmps172
 go_wp2
 go_ret
 exact ⟨rfl, rfl⟩
end Go.Proofs.YtjdiilkljgljkaaGreatDoor
namespace Go.Proofs.YtjdiilkljgljkaaGreatDoor
set_option linter.unusedVariables false
set_option linter.unusedSimpArgs false
open Go.RowKit
theorem s4 : Dd.S 4 = 18446744073709551616 := rfl
set_option maxHeartbeats 1000000 in
theorem ZbS (x : Int) (hx : Wd.IsI x) (w : World) :
  Calls Tryz.prog 59 #[.int .i64 x] w fun e w' => (∃ A2 k c2, e = .returned (.agg #[.int .i64 (sg x), .slice A2 k c2]) ∧ k ≤ 4 ∧ Nm w' A2 k c2 x) ∧ Below w.heap.size w w' := by
 obtain ⟨i0, hi0, hz0, hz1, hz2⟩ := info_parts ZbQ
 obtain ⟨p, hp⟩ : ∃ p : Int, p = x.natAbs := ⟨_, rfl⟩
 have hf4 : Dd.Fits 4 p := by unfold Dd.Fits; rw [s4]; unfold Wd.IsI at hx; omega
 have hb1 : Below w.heap.size w (w.alloc (.cells #[.int .i64 0, .slice none 0 0] 41)) := (Below.refl w.heap.size w).alloc ν _
 have hbox := heap_alloc_new w (.cells #[.int .i64 0, .slice none 0 0] 41)
 have hsz : w.heap.size < (w.alloc (.cells #[.int .i64 0, .slice none 0 0] 41)).heap.size := by simp
 obtain ⟨w1, hw1⟩ : ∃ w1, w1 = w.alloc (.cells #[.int .i64 0, .slice none 0 0] 41) := ⟨_, rfl⟩
 rw [← hw1] at hb1 hbox hsz
 have HW := η hw1; have HX := η hbox; have HB1 := η hb1; have HF := η hf4; have HP := η hp
 have hI := hx
 unfold Wd.IsI at hI
 have e1 : x < 0 → IntKind.u64.wrap (-IntKind.u64.wrap x) = p := by intro h; rw [Wd.wrapU, Wd.wrapU]; unfold Wd.lo; omega
 have e2 : ¬ x < 0 → x = p := by intro h; omega
 have hp0 : 0 ≤ p ∧ p ≤ 9223372036854775808 := by omega
 have E1 := η e1; have E2 := η e2
 clear hbox hb1 hf4 e1 e2 hx hw1 hp
 by_cases hneg : x < 0
 all_goals
  go_enter Tryz.func59, Tryz.ntmps59
  go_wp2_with fail
  first | rw [E1.out hneg] | skip
  rw [← HW.out]
  go_loopw [3, 5] (fun u v wr => ∃ j : Nat, j ≤ 4 ∧ u = .int .u64 (Dd.qt p j) ∧ wr.ownsRow w1.heap.size 3 1 v j (row .i64 (Dd.lmb p) j) ∧ Below w1.heap.size w1 wr) (fun u _ _ => (intOf u).toNat)
  case atStart => exact ⟨0, Nat.zero_le _, (by rw [Dd.qt_zero]; try rw [← E2.out (by omega)]), World.ownsRow_nil _ _ _ _, Below.refl _ _⟩
  case round =>
   obtain ⟨j, hj, rfl, hown, hbr⟩ := hrel
   have HOW := η hown; have HBR := η hbr
   clear hown hbr
   have hq0 := Int.ediv_nonneg hp0.1 (Int.le_of_lt (Dd.S_pos j))
   have hqe : 0 ≤ Dd.qt p j ∧ Dd.qt p j ≤ 9223372036854775808 := by
    have h1 := Int.ediv_le_self (b := Dd.S j) hp0.1
    unfold Dd.qt; omega
   have hl : Dd.lmb p j = Dd.qt p j % 65536 := rfl
   have HL := η hl; clear hl hq0
   by_cases hz : 0 < Dd.qt p j
   ·have hj3 : j < 4 := by
     rcases (by omega : j < 4 ∨ j = 4) with h | h
     ·exact h
     ·subst h; unfold Dd.qt at hz; rw [Int.ediv_eq_zero_of_lt HF.out.1 HF.out.2] at hz; omega
    have hqs := Dd.qt_succ p j
    have HQ := η hqs; clear hqs
    go_wp2_with (at_builtin; refine wpList_append_own _ rfl _ _ 39 rfl w1.heap.size 3 i0 (.int .i64 0) 1 8 Tryz.underlying39 hi0 hz0 hz1 hz2 rfl (by decide) _ _ _ rfl (HOW.out.alloc _) ⟨wr.heap.size, 0, none⟩ 1 1 [.int .i64 (Dd.qt p j % 65536)] rfl rfl (Jt _ _ _) (JC _ _) (by unfold maxLen; omega) (by omega) (by have := HBR.out.size; simp; omega) ?_)
    intro v' w2 hown2 hgrow _
    have hb3 : Below w1.heap.size w1 w2 := (HBR.out.alloc HBR.out.size _).grown hgrow (by have := HBR.out.size; simp; omega) (JR HOW.out)
    have H3 := η (ZaF hown2 HL.out.symm); have B3 := η hb3
    clear hown2 hgrow hb3
    go_wp2_with fail
    go_roundw
    case rel => exact ⟨j + 1, by omega, by rw [HQ.out], H3.out, B3.out⟩
    case measure => simp [intOf]; omega
   ·have hfj : Dd.Fits j p := ⟨hp0.1, by
     have h1 := Int.lt_ediv_add_one_mul_self p (Dd.S_pos j)
     unfold Dd.qt at hqe hz
     rw [show p / Dd.S j = 0 from by omega] at h1; omega⟩
    obtain ⟨A2, c2, rfl, hsl⟩ := Sl.of_own HOW.out
    have HS := η hsl; have HTY := η (Ty.of_own HOW.out); have HFJ := η hfj
    clear hsl hfj
    go_wp2_with fail
    refine (Zai _ A2 j c2 p x _ HS.out HFJ.out HP.out.symm (fun _ => by unfold sg; first | rw [Int.sign_eq_neg_one_of_neg hneg] | rw [Int.sign_eq_one_of_pos (by omega)]) HTY.out).mono ?_
    rintro e w6 ⟨⟨A3, k3, c3, rfl, hk3, hnm⟩, hb6⟩
    have hb7 : Below w1.heap.size w1 w6 := HBR.out.trans (hb6.mono HBR.out.size)
    have hr2 : w6.heap[w.heap.size]? = some (.cells #[.int .i64 0, .slice none 0 0] 41 (0, 0)) := (hb7.block w.heap.size hsz).trans HX.out
    have q0 : w6.cell? ⟨w.heap.size, 0, none⟩ = some (.int .i64 0) := by simp [World.cell?, hr2]
    have q1 : w6.cell? ⟨w.heap.size, 1, none⟩ = some (.slice none 0 0) := by simp [World.cell?, hr2]
    have q2 : w6.frozen? ⟨w.heap.size, 0, none⟩ = false := by simp [World.frozen?, hr2]
    have q3 : w6.frozen? ⟨w.heap.size, 1, none⟩ = false := by simp [World.frozen?, hr2]
    have HN := η hnm; have HR := η hr2; have B3 := η (HB1.out.trans (hb7.mono HB1.out.size))
    clear hnm hr2 hb7 hb6
    go_wp2_with fail
    refine bodyPost_ret (v := .agg #[.int .i64 (sg x), .slice A3 k3 c3]) (by simp [results, Tryz.results59, go_sem, q0, q1]) rfl ⟨⟨A3, k3, c3, rfl, by omega, ?_⟩, ?_⟩
    ·exact (HN.out.set_ HR.out (by decide)).set_ (heap_setCell_same w6 w.heap.size 0 _ _ _ HR.out) (by decide)
    ·exact (B3.out.setCell (p := ⟨w.heap.size, 0, none⟩) ν _).setCell (p := ⟨w.heap.size, 1, none⟩) ν _
namespace Dd
theorem fits_prt {k m : Nat} {p q : Int} (hp : 0 ≤ p) (hq : Fits m q) : Fits (k + m) (prt p q k) := by
 have h1 := S_pos k
 have e : p - qt p k * S k = p % S k := by
  have := Int.mul_ediv_add_emod p (S k)
  unfold qt; rw [Int.mul_comm]; omega
 have h2 := Int.emod_nonneg p (Int.ne_of_gt h1)
 have h3 := Int.emod_lt_of_pos p h1
 unfold Fits at *
 unfold prt
 rw [e, S_add]
 refine ⟨Int.mul_nonneg h2 hq.1, ?_⟩
 have h4 : p % S k * q ≤ S k * q := Int.mul_le_mul_of_nonneg_right (Int.le_of_lt h3) hq.1
 have h5 : S k * q < S k * S m := Int.mul_lt_mul_of_pos_left hq.2 h1
 omega
theorem prt_whole {n : Nat} {p q : Int} (hp : Fits n p) : prt p q n = p * q := by
 unfold prt qt
 rw [Int.ediv_eq_zero_of_lt hp.1 hp.2, Int.zero_mul, Int.sub_zero]
theorem kar_last {k m : Nat} {p q : Int} (hp : 0 ≤ p) (hq : Fits m q) : kar p q k m = lmb (prt p q (k + 1)) (k + m) := by
 have h1 := fits_prt (k := k) hp hq
 have h2 := fits_prt (k := k + 1) hp hq
 rw [show k + 1 + m = k + m + 1 from by omega] at h2
 have h3 := S_pos (k + m)
 unfold Fits at h2
 rw [S_succ] at h2
 have e3 : 0 ≤ qt (prt p q (k + 1)) (k + m) ∧ qt (prt p q (k + 1)) (k + m) < 65536 := ⟨Int.ediv_nonneg h2.1 (Int.le_of_lt h3), Int.ediv_lt_of_lt_mul h3 (by omega)⟩
 have e1 : qt (prt p q k) (k + m) = 0 := Int.ediv_eq_zero_of_lt h1.1 h1.2
 have e2 : qt q m = 0 := Int.ediv_eq_zero_of_lt hq.1 hq.2
 unfold kar lmb
 rw [e1, e2, Int.mul_zero]
 omega
def mid (x y : Int) (i j : Nat) : Nat → Int := fun k => if k < i + j then lmb (prt x y (i + 1)) k else lmb (prt x y i) k
theorem mid_zero (x y : Int) (i k : Nat) : lmb (prt x y i) k = mid x y i 0 k := by
 unfold mid; split
 ·rw [prt_low x y (by omega)]
 ·rfl
theorem mid_at (x y : Int) (i j : Nat) : mid x y i j (i + j) = lmb (prt x y i) (i + j) := by unfold mid; rw [if_neg (by omega)]
theorem mid_next (x y : Int) (i j : Nat) : lmb (prt x y (i + 1)) (i + j) = mid x y i (j + 1) (i + j) := by unfold mid; rw [if_pos (by omega)]
theorem mid_other (x y : Int) (i j k : Nat) (h : k ≠ i + j) : mid x y i j k = mid x y i (j + 1) k := by
 unfold mid
 by_cases h1 : k < i + j
 ·rw [if_pos h1, if_pos (by omega)]
 ·rw [if_neg h1, if_neg (by omega)]
theorem mid_rest {p q : Int} {i m k : Nat} (hp : 0 ≤ p) (hq : Fits m q) (h : k ≠ i + m) : mid p q i m k = lmb (prt p q (i + 1)) k := by
 unfold mid
 by_cases h1 : k < i + m
 ·rw [if_pos h1]
 ·rw [if_neg h1, lmb_beyond (fits_prt (k := i) hp hq) (by omega), lmb_beyond (fits_prt (k := i + 1) hp hq) (by omega)]
theorem kar_step2 (x y : Int) (i j : Nat) : (lmb (prt x y i) (i + j) + lmb x i * lmb y j + kar x y i j) % 65536 = lmb (prt x y (i + 1)) (i + j) ∧
  (lmb (prt x y i) (i + j) + lmb x i * lmb y j + kar x y i j) / 65536 = kar x y i (j + 1) := by
 have hk := isW_kar x y i j
 have h := kar_step x y i j hk
 have hp := isW_lt_mul (isW_lmb x i) (isW_lmb y j)
 have h1 := lmb_range (prt x y i) (i + j)
 have hk2 := h.2.2
 rw [Int.add_comm (lmb (prt x y i) (i + j))]
 refine ⟨h.1, ?_⟩
 have h2 := h.2.1
 unfold hi at h2
 unfold IsW at hk
 generalize lmb x i * lmb y j = u at *
 omega
end Dd
theorem Zf9 {B : Nat} {a w : World} (h : Below B a w) (n : Nat) : Below B a (w.drewN n) := ⟨h.os, h.tape, h.output, h.size, h.block⟩
theorem ZjB (x y : Int) : sg x * sg y = sg (x * y) := by unfold sg; rw [Int.sign_mul]
set_option maxRecDepth 100000 in
theorem Zar (A A' : Option Addr) (n c m c' : Nat) (x y : Int) (w : World) (ha : Nm w A n c x) (hb : Nm w A' m c' y) (hn : n ≤ 50000) (hm : m ≤ 49999) :
  Calls Tryz.prog 32 #[.agg #[.int .i64 (sg x), .slice A n c], .agg #[.int .i64 (sg y), .slice A' m c']] w fun e w' => (∃ A2 k c2, e = .returned (.agg #[.int .i64 (sg (x * y)), .slice A2 k c2]) ∧ k ≤ n + m ∧ Nm w' A2 k c2 (x * y)) ∧ Below w.heap.size w w' := by
 obtain ⟨i0, hi0, hz0, hz1, hz2⟩ := info_parts ZbQ
 have hrx := Jr x; have hry := Jr y
 have hsm := ZjB x y
 have hrs := Jr (x * y)
 rw [← hsm] at hrs
 have HSM := η hsm
 have HA := η ha; have HB := η hb
 have hb3 : ∀ (o1 o2 o3 : Obj), Below w.heap.size w (((w.alloc o1).alloc o2).alloc o3) := fun o1 o2 o3 => (((Below.refl w.heap.size w).alloc ν _).alloc (by simp) _).alloc (by simp; omega) _
 have HB3 := η hb3
 have hnm : ((x * y).natAbs : Int) = (x.natAbs : Int) * y.natAbs := by rw [Int.natAbs_mul]; exact Int.natCast_mul _ _
 obtain ⟨p, hp⟩ : ∃ p : Int, p = x.natAbs := ⟨_, rfl⟩
 obtain ⟨q, hq⟩ : ∃ q : Int, q = y.natAbs := ⟨_, rfl⟩
 have hfp : Dd.Dg n p := by rw [hp]; exact ha.2.1
 have hfq : Dd.Dg m q := by rw [hq]; exact hb.2.1
 rw [← hp, ← hq] at hnm
 have hmaxa := ha.1.max; have hmaxb := hb.1.max; have hcapa := ha.1.cap; have hcapb := hb.1.cap
 unfold maxLen at hmaxa hmaxb
 have HP := η hp; have HQ := η hq; have HNM := η hnm; have HFP := η hfp; have HFQ := η hfq
 clear ha hb hb3 hsm hp hq hnm hfp hfq
 go_enter Tryz.func32, Tryz.ntmps32
 go_wp2_with fail
 have bx := Box.new w (.int .i64 (sg x)) (.slice A n c) (.int .i64 (sg y)) (.slice A' m c')
 have hbw := HB3.out (.cells #[.int .i64 (sg x), .slice A n c] 41) (.cells #[.int .i64 (sg y), .slice A' m c'] 41) (.cells #[.int .i64 0, .slice none 0 0] 41)
 generalize (((w.alloc (.cells #[.int .i64 (sg x), .slice A n c] 41)).alloc (.cells #[.int .i64 (sg y), .slice A' m c'] 41)).alloc (.cells #[.int .i64 0, .slice none 0 0] 41)) = w3 at *
 have BX := η bx; have BW := η hbw
 have NA := η (HA.out.below hbw ν); have NB := η (HB.out.below hbw ν)
 clear bx hbw HA HB
 go_loopw [5, 6] (fun v i wr => ∃ k : Nat, k ≤ n + m ∧ i = .int .i64 k ∧ wr.ownsRow w3.heap.size 3 1 v k (row .i64 (Dd.lmb 0) k) ∧ Below w3.heap.size w3 wr) (fun _ i _ => n + m - (intOf i).toNat)
 case atStart => exact ⟨0, Nat.zero_le _, rfl, World.ownsRow_nil _ _ _ _, Below.refl _ _⟩
 case round =>
  obtain ⟨k, hk, rfl, hown, hbr⟩ := hrel
  have bxr := BX.out.below hbr ν
  have c1 := bxr.c1; have d1 := bxr.d1
  have HOW := η hown; have HBR := η hbr
  clear hown hbr bxr
  by_cases hlt : k < n + m
  ·go_wp2_with (at_builtin; refine wpList_append_own _ rfl _ _ 39 rfl w3.heap.size 3 i0 (.int .i64 0) 1 8 Tryz.underlying39 hi0 hz0 hz1 hz2 rfl (by decide) _ _ _ rfl (HOW.out.alloc _) ⟨wr.heap.size, 0, none⟩ 1 1 [.int .i64 0] rfl rfl (Jt _ _ _) (JC _ _) (by unfold maxLen; omega) (by omega) (by have := HBR.out.size; simp; omega) ?_)
   intro v' w4 hown2 hgrow _
   have hb3 : Below w3.heap.size w3 w4 := (HBR.out.alloc HBR.out.size _).grown hgrow (by have := HBR.out.size; simp; omega) (JR HOW.out)
   have H3 := η (ZaF hown2 (Dd.lmb_zero k).symm); have B3 := η hb3
   clear hown2 hgrow hb3 c1 d1
   go_wp2_with fail
   go_roundw
   case rel => exact ⟨k + 1, by omega, by go_num, H3.out, B3.out⟩
   case measure => simp [intOf]; omega
  ·obtain rfl : k = n + m := by omega
   obtain ⟨wo, rfl⟩ : ∃ wo : World, wo = wr := ⟨_, rfl⟩
   go_wp2_with fail
   go_loopw [7] (fun i wr => ∃ k : Nat, k ≤ n ∧ i = .int .i64 k ∧ wr.ownsRow w3.heap.size 3 1 u5 (n + m) (row .i64 (Dd.lmb (Dd.prt p q k)) (n + m)) ∧ Below w3.heap.size w3 wr) (fun i _ => n - (intOf i).toNat)
   case atStart => exact ⟨0, Nat.zero_le _, rfl, by rw [Dd.prt_zero]; exact HOW.out, HBR.out⟩
   case round =>
    clear HOW HBR c1 d1
    obtain ⟨k, hk, rfl, hown, hbr⟩ := hrel
    have bxr := BX.out.below hbr ν
    have c1 := bxr.c1; have d1 := bxr.d1
    have HOW := η hown; have HBR := η hbr; have BXR := η bxr
    clear hown hbr bxr
    by_cases hlt : k < n
    ·obtain ⟨g, cg, hv, hg1, hg2⟩ := HOW.out.form (by omega)
     subst hv
     have hcg := (Sl.of_own HOW.out)
     have hcc : n + m ≤ cg ∧ cg ≤ 9223372036854775807 := by
      obtain ⟨A9, c9, hv9, hs9⟩ := hcg
      injection hv9 with _ _ e9
      subst e9
      exact ⟨hs9.cap, by have := hs9.max; unfold maxLen at this; omega⟩
     clear hcg hg2
     go_wp2_with fail
     obtain ⟨wo, rfl⟩ : ∃ wo : World, wo = wr := ⟨_, rfl⟩
     go_loopw [8, 9] (fun cr j wr => ∃ l : Nat, l ≤ m ∧ j = .int .i64 l ∧ cr = .int .i64 (Dd.kar p q k l) ∧ wr.ownsRow w3.heap.size 3 1 (.slice (some ⟨g, 0, none⟩) (n + m) cg) (n + m) (row .i64 (Dd.mid p q k l) (n + m)) ∧ Below w3.heap.size w3 wr) (fun _ j _ => m - (intOf j).toNat)
     case atStart => exact ⟨0, Nat.zero_le _, rfl, by rw [Dd.kar_zero], Zc8 HOW.out (fun i _ => Dd.mid_zero p q k i), HBR.out⟩
     case round =>
      clear HOW HBR c1 d1 BXR
      obtain ⟨l, hl, rfl, rfl, hown, hbr⟩ := hrel
      have bxr := BX.out.below hbr ν
      have c1 := bxr.c1; have d1 := bxr.d1
      have hna := NA.out.below hbr ν; have hnb := NB.out.below hbr ν
      have hkr := Dd.isW_kar p q k l
      unfold Dd.IsW at hkr
      by_cases hlt2 : l < m
      ·obtain ⟨ab, ao, rfl, halt, hac⟩ := hna.1.at_ (by omega)
       obtain ⟨bb, bo, rfl, hblt, hbc⟩ := hnb.1.at_ (by omega)
       have c2 : wr.cell? ⟨ab, ao + k, none⟩ = some (.int .i64 (Dd.lmb p k)) := by rw [HP.out]; exact hac k hlt
       have c3 : wr.cell? ⟨bb, bo + l, none⟩ = some (.int .i64 (Dd.lmb q l)) := by rw [HQ.out]; exact hbc l hlt2
       have c4 : wr.cell? ⟨g, k + l, none⟩ = some (.int .i64 (Dd.lmb (Dd.prt p q k) (k + l))) := by rw [← Dd.mid_at p q k l]; exact ZcO hown (by omega)
       have c5 : wr.frozen? ⟨g, k + l, none⟩ = false := World.ownsRow.frozenAt hown (k + l)
       have hst := Dd.kar_step2 p q k l
       have hpr := Dd.isW_lt_mul (Dd.isW_lmb p k) (Dd.isW_lmb q l)
       have r1 := Dd.lmb_range (Dd.prt p q k) (k + l)
       have r2 := Dd.lmb_range p k; have r3 := Dd.lmb_range q l
       have HOW := η hown; have HBR := η hbr; have HST := η hst
       clear hown hbr bxr hna hnb hac hbc hst
       have s4 : (k : Int) + (l : Int) < (n : Int) + (m : Int) := by omega
       have s2 : (0 : Int) ≤ (k : Int) + (l : Int) := by omega
       go_wp2_with fail
       have s1 : IntKind.i64.wrap ((k : Int) + (l : Int)) = (k : Int) + (l : Int) := IntWalk.i64_in _ (by omega)
       have s3 : ((k : Int) + (l : Int)).toNat = k + l := by omega
       go_quiet (fail)
       clear s1 s3
       go_wp2_with fail
       go_roundw
       case rel => exact ⟨l + 1, by omega, by go_num, by rw [HST.out.2], Zdz (Ze6 HOW.out nq) (by rw [HST.out.1]; exact Dd.mid_next p q k l) (fun i _ hne => Dd.mid_other p q k l i hne), (Zf9 HBR.out nq).setCell (p := ⟨g, k + l, none⟩) hg1 _⟩
       case measure => simp [intOf]; omega
      ·obtain rfl : l = m := by omega
       have hz : Dd.lmb (Dd.prt p q k) (k + l) = 0 := Dd.lmb_beyond (Dd.fits_prt (k := k) HFP.out.1.1 HFQ.out.1) ν
       have c4 : wr.cell? ⟨g, k + l, none⟩ = some (.int .i64 0) := by rw [← hz, ← Dd.mid_at p q k l]; exact ZcO hown (by omega)
       have c5 : wr.frozen? ⟨g, k + l, none⟩ = false := World.ownsRow.frozenAt hown (k + l)
       have hkl := Dd.kar_last (k := k) HFP.out.1.1 HFQ.out.1
       have HOW := η hown; have HBR := η hbr; have HKL := η hkl
       clear hown hbr bxr hna hnb hz hkl
       go_wp2_with fail
       go_roundw
       case rel => exact ⟨k + 1, by omega, by go_num, Zdz HOW.out HKL.out (fun i _ hne => Dd.mid_rest HFP.out.1.1 HFQ.out.1 hne), HBR.out.setCell (p := ⟨g, k + l, none⟩) hg1 _⟩
       case measure => simp [intOf]; omega
    ·obtain rfl : k = n := by omega
     have hown := HOW.out
     rw [Dd.prt_whole HFP.out.1] at hown
     have hfit : Dd.Fits (k + m) (p * q) := by
      have := Dd.fits_prt (k := k) HFP.out.1.1 HFQ.out.1
      rw [Dd.prt_whole HFP.out.1] at this; exact this
     obtain ⟨A9, c9, hv9, hs9⟩ := Sl.of_own hown
     subst hv9
     have HS9 := η hs9; have HT9 := η (Ty.of_own hown); have HFT := η hfit
     clear hown hs9 hfit HOW
     have c0 := BXR.out.c0; have d0 := BXR.out.d0
     have s1 : IntKind.i64.wrap (sg x * sg y) = sg x * sg y := IntWalk.i64_in _ (by omega)
     go_wp2_with fail
     refine (Zai _ A9 (k + m) c9 (p * q) (x * y) _ HS9.out HFT.out HNM.out (fun _ => HSM.out) HT9.out).mono ?_
     rintro e w6 ⟨⟨A3, k3, c3, rfl, hk3, hnm⟩, hb6⟩
     have hb7 : Below w3.heap.size w3 w6 := HBR.out.trans (hb6.mono HBR.out.size)
     have B6 := η (BX.out.below hb7 ν)
     have q0 := B6.out.cell 0; have q1 := B6.out.cell 1; have q2 := B6.out.free 0; have q3 := B6.out.free 1
     have N6 := η hnm; have D6 := η (BW.out.trans (hb7.mono BW.out.size))
     clear hnm hb7 hb6 s1 c0 d0 c1 d1
     go_wp2_with fail
     refine bodyPost_ret (v := .agg #[.int .i64 (sg (x * y)), .slice A3 k3 c3]) (by simp [results, Tryz.results32, go_sem, q0, q1]) rfl ⟨⟨A3, k3, c3, rfl, hk3, B6.out.set2 N6.out⟩, ?_⟩
     exact (D6.out.setCell (p := ⟨w.heap.size + 1 + 1, 0, none⟩) (by simp; omega) _).setCell (p := ⟨w.heap.size + 1 + 1, 1, none⟩) (by simp; omega) _
end Go.Proofs.YtjdiilkljgljkaaGreatDoor
