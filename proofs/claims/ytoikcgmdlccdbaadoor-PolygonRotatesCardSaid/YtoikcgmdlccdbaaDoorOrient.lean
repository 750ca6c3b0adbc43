/- Contracts of package orient: the determinant of three points, its sign, two masks. -/
import Derived.Test.YtoikcgmdlccdbaaDoorDiff
import Derived.Test.YtoikcgmdlccdbaaDoorGeo
import Derived.Test.YtoikcgmdlccdbaaDoorLimb4
import Derived.Test.YtoikcgmdlccdbaaDoorRef3c
namespace Go.Proofs.YtoikcgmdlccdbaaDoor
set_option linter.unusedVariables false
set_option linter.unusedSimpArgs false
open Go.RowKit Wd

theorem xor_eq_zero {a b : Int} (ha : IsW a) (hb : IsW b) : bits .xor .u64 a b = 0 ↔ a = b := by
  unfold IsW at *
  rw [u64_xor a b ha.1 ha.2 hb.1 hb.2]
  constructor
  · intro h
    have h1 : a.toNat ^^^ b.toNat = 0 := by omega
    have h2 : a.toNat = b.toNat := by
      have := congrArg (· ^^^ b.toNat) h1
      simpa [Nat.xor_assoc] using this
    omega
  · intro h; subst h; simp
theorem TabM.alloc {w : World} (h : TabM w) (o : Obj) : TabM (w.alloc o) := h.below ((Below.refl w.heap.size w).alloc (Nat.le_refl _) o) (Nat.le_refl _)
theorem mask_Equal (a b : Int) (ha : IsW a) (hb : IsW b) (w : World) :
    Calls Tryd.prog 56 #[.int .u64 a, .int .u64 b] w fun e w' => e = .returned (.int .u64 (msk (decide (a = b)))) ∧ w = w' := by
  have h := Lib.hid (xor_w ha hb)
  have he : decide (a = b) = decide (bits .xor .u64 a b = 0) := decide_eq_decide.2 (xor_eq_zero ha hb).symm
  rw [he]
  clear he
  go_enter Tryd.func56, Tryd.ntmps56
  go_wp2_with fail
  refine (mask_Zero _ h.out _).mono ?_
  rintro e w' ⟨rfl, rfl⟩
  go_wp2_with fail
  go_ret
  exact ⟨rfl, rfl⟩
set_option maxHeartbeats 1000000 in
theorem orient_Value (ax ay bx b_ cx cy : Int) (hp : P3 ax ay bx b_ cx cy) (w : World) :
    Calls Tryd.prog 80 #[.agg #[.int .i64 ax, .int .i64 ay], .agg #[.int .i64 bx, .int .i64 b_], .agg #[.int .i64 cx, .int .i64 cy]] w fun e w' => (∃ A c, e = .returned (.slice A 3 c) ∧ Sl w' .u64 A 3 c (lmb (det ax ay bx b_ cx cy))) ∧ Below w.heap.size w w' := by
  have HB0 := Lib.hid (Below.refl w.heap.size w)
  have HF := Lib.hid hp.fit
  go_enter Tryd.func80, Tryd.ntmps80
  go_wp2_with fail
  have B : Below w.heap.size w (((w.alloc (.cells #[.int .i64 ax, .int .i64 ay] 28)).alloc (.cells #[.int .i64 bx, .int .i64 b_] 28)).alloc (.cells #[.int .i64 cx, .int .i64 cy] 28)) := (((HB0.out.alloc HB0.out.size _).alloc (HB0.out.alloc HB0.out.size _).size _).alloc ((HB0.out.alloc HB0.out.size _).alloc (HB0.out.alloc HB0.out.size _).size _).size _)
  have C : Below w.heap.size w (((w.alloc (.cells #[.int .i64 ax, .int .i64 ay] 28)).alloc (.cells #[.int .i64 bx, .int .i64 b_] 28)).alloc (.cells #[.int .i64 cx, .int .i64 cy] 28)) := ((((Below.refl w.heap.size w).alloc (Nat.le_refl _) _).alloc (by simp; try omega) _).alloc (by simp; try omega) _)
  have X0 : Bx (((w.alloc (.cells #[.int .i64 ax, .int .i64 ay] 28)).alloc (.cells #[.int .i64 bx, .int .i64 b_] 28)).alloc (.cells #[.int .i64 cx, .int .i64 cy] 28)) (w.heap.size) #[.int .i64 ax, .int .i64 ay] 28 := by simpa using (((Bx.new w #[.int .i64 ax, .int .i64 ay] 28).alloc _).alloc _)
  have X1 : Bx (((w.alloc (.cells #[.int .i64 ax, .int .i64 ay] 28)).alloc (.cells #[.int .i64 bx, .int .i64 b_] 28)).alloc (.cells #[.int .i64 cx, .int .i64 cy] 28)) (w.heap.size + 1) #[.int .i64 bx, .int .i64 b_] 28 := by simpa using ((Bx.new (w.alloc (.cells #[.int .i64 ax, .int .i64 ay] 28)) #[.int .i64 bx, .int .i64 b_] 28).alloc _)
  have X2 : Bx (((w.alloc (.cells #[.int .i64 ax, .int .i64 ay] 28)).alloc (.cells #[.int .i64 bx, .int .i64 b_] 28)).alloc (.cells #[.int .i64 cx, .int .i64 cy] 28)) (w.heap.size + 1 + 1) #[.int .i64 cx, .int .i64 cy] 28 := by simpa using (Bx.new ((w.alloc (.cells #[.int .i64 ax, .int .i64 ay] 28)).alloc (.cells #[.int .i64 bx, .int .i64 b_] 28)) #[.int .i64 cx, .int .i64 cy] 28)
  have HB1 := Lib.hid B
  have FP_1 := Lib.hid X0
  have FQ_1 := Lib.hid X1
  have FR_1 := Lib.hid X2
  clear B C X0 X1 X2 HB0 
  generalize (((w.alloc (.cells #[.int .i64 ax, .int .i64 ay] 28)).alloc (.cells #[.int .i64 bx, .int .i64 b_] 28)).alloc (.cells #[.int .i64 cx, .int .i64 cy] 28)) = w1 at *
  have RB1 := Lib.hid (below_drew0 w1)
  have QS1 := Lib.hid (show w1.cell? ⟨w.heap.size, 0, none⟩ = some (.int .i64 ax) ∧ w1.cell? ⟨w.heap.size, 1, none⟩ = some (.int .i64 ay) ∧ w1.cell? ⟨w.heap.size + 1, 0, none⟩ = some (.int .i64 bx) ∧ w1.cell? ⟨w.heap.size + 1, 1, none⟩ = some (.int .i64 b_) ∧ w1.cell? ⟨w.heap.size + 1 + 1, 0, none⟩ = some (.int .i64 cx) ∧ w1.cell? ⟨w.heap.size + 1 + 1, 1, none⟩ = some (.int .i64 cy) from ⟨FP_1.out.cell 0 (v := .int .i64 ax) rfl, FP_1.out.cell 1 (v := .int .i64 ay) rfl, FQ_1.out.cell 0 (v := .int .i64 bx) rfl, FQ_1.out.cell 1 (v := .int .i64 b_) rfl, FR_1.out.cell 0 (v := .int .i64 cx) rfl, FR_1.out.cell 1 (v := .int .i64 cy) rfl⟩)
  have QF1 := Lib.hid (show ∀ w', Below w1.heap.size w1 w' → w'.cell? ⟨w.heap.size, 0, none⟩ = some (.int .i64 ax) ∧ w'.cell? ⟨w.heap.size, 1, none⟩ = some (.int .i64 ay) ∧ w'.cell? ⟨w.heap.size + 1, 0, none⟩ = some (.int .i64 bx) ∧ w'.cell? ⟨w.heap.size + 1, 1, none⟩ = some (.int .i64 b_) ∧ w'.cell? ⟨w.heap.size + 1 + 1, 0, none⟩ = some (.int .i64 cx) ∧ w'.cell? ⟨w.heap.size + 1 + 1, 1, none⟩ = some (.int .i64 cy) from fun w' hb => ⟨(FP_1.out.below hb (Nat.le_refl _)).cell 0 (v := .int .i64 ax) rfl, (FP_1.out.below hb (Nat.le_refl _)).cell 1 (v := .int .i64 ay) rfl, (FQ_1.out.below hb (Nat.le_refl _)).cell 0 (v := .int .i64 bx) rfl, (FQ_1.out.below hb (Nat.le_refl _)).cell 1 (v := .int .i64 b_) rfl, (FR_1.out.below hb (Nat.le_refl _)).cell 0 (v := .int .i64 cx) rfl, (FR_1.out.below hb (Nat.le_refl _)).cell 1 (v := .int .i64 cy) rfl⟩)
  go_region_held3 (fun w' => w'.cell? ⟨w.heap.size, 0, none⟩ = some (.int .i64 ax) ∧ w'.cell? ⟨w.heap.size, 1, none⟩ = some (.int .i64 ay) ∧ w'.cell? ⟨w.heap.size + 1, 0, none⟩ = some (.int .i64 bx) ∧ w'.cell? ⟨w.heap.size + 1, 1, none⟩ = some (.int .i64 b_) ∧ w'.cell? ⟨w.heap.size + 1 + 1, 0, none⟩ = some (.int .i64 cx) ∧ w'.cell? ⟨w.heap.size + 1 + 1, 1, none⟩ = some (.int .i64 cy)) (first | with_reducible exact QF1.out _ RB5.out | with_reducible exact QF1.out _ RB4.out | with_reducible exact QF1.out _ RB3.out | with_reducible exact QF1.out _ RB2.out | with_reducible exact QS1.out | with_reducible exact QF1.out _ RB1.out) (first
      | (go_at_call 92; have := RB4; clear this; refine (limb_Extend U3 4 u3 (det ax ay bx b_ cx cy) 3 3 rfl _ RX3_4.out (fit_mono HF.out (by omega)) rfl rfl).mono ?_; rintro e w5 ⟨U4, u4, rfl, S4, B⟩; have RB5 := Lib.hid (RB4.out.trans (B.mono RB4.out.size)); have RX1_5 := Lib.hid (RX1_4.out.below B (Nat.le_refl _)); have RY1_5 := Lib.hid (RY1_4.out.below B (Nat.le_refl _)); have RX2_5 := Lib.hid (RX2_4.out.below B (Nat.le_refl _)); have RY2_5 := Lib.hid (RY2_4.out.below B (Nat.le_refl _)); have RX3_5 := Lib.hid (RX3_4.out.below B (Nat.le_refl _)); have RX4_5 := Lib.hid S4; clear B S4)
      | (go_at_call 93; have := RB3; clear this; refine (diff_Cross U1 V1 U2 V2 u1 v1 u2 v2 (bx - ax) (b_ - ay) (cx - ax) (cy - ay) _ RX1_3.out RY1_3.out RX2_3.out RY2_3.out (fit_sub hp.c hp.a) (fit_sub hp.d hp.b) (fit_sub hp.e hp.a) (fit_sub hp.f hp.b)).mono ?_; rintro e w4 ⟨⟨U3, u3, rfl, S3⟩, B⟩; have RB4 := Lib.hid (RB3.out.trans (B.mono RB3.out.size)); have RX1_4 := Lib.hid (RX1_3.out.below B (Nat.le_refl _)); have RY1_4 := Lib.hid (RY1_3.out.below B (Nat.le_refl _)); have RX2_4 := Lib.hid (RX2_3.out.below B (Nat.le_refl _)); have RY2_4 := Lib.hid (RY2_3.out.below B (Nat.le_refl _)); have RX3_4 := Lib.hid (show Sl _ .u64 U3 4 u3 (lmb (det ax ay bx b_ cx cy)) from S3); clear B S3)
      | (go_at_call 94; have := RB2; clear this; refine (diff_Between ax ay cx cy hp.a hp.b hp.e hp.f _).mono ?_; rintro e w3 ⟨⟨U2, u2, V2, v2, rfl, S2, T2⟩, B⟩; have RB3 := Lib.hid (RB2.out.trans (B.mono RB2.out.size)); have RX1_3 := Lib.hid (RX1_2.out.below B (Nat.le_refl _)); have RY1_3 := Lib.hid (RY1_2.out.below B (Nat.le_refl _)); have RX2_3 := Lib.hid S2; have RY2_3 := Lib.hid T2; clear B S2 T2)
      | (go_at_call 94; have := RB1; clear this; refine (diff_Between ax ay bx b_ hp.a hp.b hp.c hp.d _).mono ?_; rintro e w2 ⟨⟨U1, u1, V1, v1, rfl, S1, T1⟩, B⟩; have RB2 := Lib.hid (RB1.out.trans (B.mono RB1.out.size)); have RX1_2 := Lib.hid S1; have RY1_2 := Lib.hid T1; clear B S1 T1))
  have FP_5 := Lib.hid (FP_1.out.below RB5.out (Nat.le_refl _))
  have FQ_5 := Lib.hid (FQ_1.out.below RB5.out (Nat.le_refl _))
  have FR_5 := Lib.hid (FR_1.out.below RB5.out (Nat.le_refl _))
  have HB5 := Lib.hid (HB1.out.trans (RB5.out.mono HB1.out.size))
  clear HB1 FP_1 FQ_1 FR_1
  go_wp2_with fail
  go_ret
  exact ⟨⟨_, _, rfl, RX4_5.out⟩, HB5.out⟩

set_option maxHeartbeats 1000000 in
theorem orient_Sign (ax ay bx b_ cx cy : Int) (hp : P3 ax ay bx b_ cx cy) (w : World) (hT : TabM w) :
    Calls Tryd.prog 64 #[.agg #[.int .i64 ax, .int .i64 ay], .agg #[.int .i64 bx, .int .i64 b_], .agg #[.int .i64 cx, .int .i64 cy]] w fun e w' => e = .returned (.int .i64 (sg (det ax ay bx b_ cx cy))) ∧ Below w.heap.size w w' := by
  have HB0 := Lib.hid (Below.refl w.heap.size w)
  have FT := Lib.hid hT
  clear hT
  have HF := Lib.hid hp.fit
  go_enter Tryd.func64, Tryd.ntmps64
  go_wp2_with fail
  refine (orient_Value _ _ _ _ _ _ hp _).mono ?_
  rintro e w1 ⟨⟨U1, u1, rfl, S1⟩, B⟩
  have HB1 := Lib.hid ((((HB0.out.alloc HB0.out.size _).alloc (HB0.out.alloc HB0.out.size _).size _).alloc ((HB0.out.alloc HB0.out.size _).alloc (HB0.out.alloc HB0.out.size _).size _).size _).trans (B.mono (((HB0.out.alloc HB0.out.size _).alloc (HB0.out.alloc HB0.out.size _).size _).alloc ((HB0.out.alloc HB0.out.size _).alloc (HB0.out.alloc HB0.out.size _).size _).size _).size))
  have FT_1 := Lib.hid ((((FT.out.alloc _).alloc _).alloc _).below B (Nat.le_refl _))
  have FX_1 := Lib.hid S1
  clear B S1 HB0 FT
  go_wp2_with fail
  refine (limb_Sign _ _ _ _ _ FX_1.out HF.out rfl FT_1.out).mono ?_
  rintro e w2 ⟨rfl, B⟩
  have HB2 := Lib.hid (HB1.out.trans (B.mono HB1.out.size))
  have FT_2 := Lib.hid (FT_1.out.below B (Nat.le_refl _))
  have FX_2 := Lib.hid (FX_1.out.below B (Nat.le_refl _))
  clear B  HB1 FT_1 FX_1
  go_wp2_with fail
  go_ret
  exact ⟨rfl, HB2.out⟩

/-- the table of package orient -/
def TabO (w : World) : Prop := w.cell? ⟨1, 0, none⟩ = some (.int .u64 0) ∧ w.cell? ⟨1, 1, none⟩ = some (.int .u64 1)
theorem TabO.below {w w' : World} {B : Nat} (h : TabO w) (hb : Below B w w') (hB : w.heap.size ≤ B) : TabO w' := by
  have hlt := lt_of_cell h.1
  have hB' : 1 < B := by omega
  exact ⟨(hb.cell (p := ⟨1, 0, none⟩) hB').trans h.1, (hb.cell (p := ⟨1, 1, none⟩) hB').trans h.2⟩
theorem TabO.alloc {w : World} (h : TabO w) (o : Obj) : TabO (w.alloc o) := h.below ((Below.refl w.heap.size w).alloc (Nat.le_refl _) o) (Nat.le_refl _)
/-- a sign as a word -/
theorem sgw (x : Int) : IsW (IntKind.u64.wrap (sg x)) ∧ (IntKind.u64.wrap (sg x) = 1 ↔ 0 < x) ∧ (IntKind.u64.wrap (sg x) = 0 ↔ x = 0) ∧ (0 ≤ sg x → IntKind.u64.wrap (sg x) = sg x) := by
  rw [wrapU]
  refine ⟨isW_lo _, ?_⟩
  unfold sg lo
  rcases (by omega : x < 0 ∨ x = 0 ∨ 0 < x) with h | h | h
  · rw [Int.sign_eq_neg_one_of_neg h]; omega
  · subst h; simp
  · rw [Int.sign_eq_one_of_pos h]; omega
set_option maxHeartbeats 1000000 in
theorem orient_Collinear (ax ay bx b_ cx cy : Int) (hp : P3 ax ay bx b_ cx cy) (w : World) (hT : TabM w) (hO : TabO w) :
    Calls Tryd.prog 58 #[.agg #[.int .i64 ax, .int .i64 ay], .agg #[.int .i64 bx, .int .i64 b_], .agg #[.int .i64 cx, .int .i64 cy]] w fun e w' => e = .returned (.int .u64 (msk (decide (det ax ay bx b_ cx cy = 0)))) ∧ Below w.heap.size w w' := by
  have HB0 := Lib.hid (Below.refl w.heap.size w)
  have FT := Lib.hid hT
  have FO := Lib.hid hO
  clear hT hO
  have hw := sgw (det ax ay bx b_ cx cy)
  rw [show decide (det ax ay bx b_ cx cy = 0) = decide (IntKind.u64.wrap (sg (det ax ay bx b_ cx cy)) = 0) from decide_eq_decide.2 hw.2.2.1.symm]
  have HW := Lib.hid hw; have hr := sign_range (det ax ay bx b_ cx cy); clear hw
  go_enter Tryd.func58, Tryd.ntmps58
  go_wp2_with fail
  have B : Below w.heap.size w (((w.alloc (.cells #[.int .i64 ax, .int .i64 ay] 28)).alloc (.cells #[.int .i64 bx, .int .i64 b_] 28)).alloc (.cells #[.int .i64 cx, .int .i64 cy] 28)) := (((HB0.out.alloc HB0.out.size _).alloc (HB0.out.alloc HB0.out.size _).size _).alloc ((HB0.out.alloc HB0.out.size _).alloc (HB0.out.alloc HB0.out.size _).size _).size _)
  have C : Below w.heap.size w (((w.alloc (.cells #[.int .i64 ax, .int .i64 ay] 28)).alloc (.cells #[.int .i64 bx, .int .i64 b_] 28)).alloc (.cells #[.int .i64 cx, .int .i64 cy] 28)) := ((((Below.refl w.heap.size w).alloc (Nat.le_refl _) _).alloc (by simp; try omega) _).alloc (by simp; try omega) _)
  have X0 : Bx (((w.alloc (.cells #[.int .i64 ax, .int .i64 ay] 28)).alloc (.cells #[.int .i64 bx, .int .i64 b_] 28)).alloc (.cells #[.int .i64 cx, .int .i64 cy] 28)) (w.heap.size) #[.int .i64 ax, .int .i64 ay] 28 := by simpa using (((Bx.new w #[.int .i64 ax, .int .i64 ay] 28).alloc _).alloc _)
  have X1 : Bx (((w.alloc (.cells #[.int .i64 ax, .int .i64 ay] 28)).alloc (.cells #[.int .i64 bx, .int .i64 b_] 28)).alloc (.cells #[.int .i64 cx, .int .i64 cy] 28)) (w.heap.size + 1) #[.int .i64 bx, .int .i64 b_] 28 := by simpa using ((Bx.new (w.alloc (.cells #[.int .i64 ax, .int .i64 ay] 28)) #[.int .i64 bx, .int .i64 b_] 28).alloc _)
  have X2 : Bx (((w.alloc (.cells #[.int .i64 ax, .int .i64 ay] 28)).alloc (.cells #[.int .i64 bx, .int .i64 b_] 28)).alloc (.cells #[.int .i64 cx, .int .i64 cy] 28)) (w.heap.size + 1 + 1) #[.int .i64 cx, .int .i64 cy] 28 := by simpa using (Bx.new ((w.alloc (.cells #[.int .i64 ax, .int .i64 ay] 28)).alloc (.cells #[.int .i64 bx, .int .i64 b_] 28)) #[.int .i64 cx, .int .i64 cy] 28)
  have FT_1 := Lib.hid (FT.out.below C (Nat.le_refl _))
  have FO_1 := Lib.hid (FO.out.below C (Nat.le_refl _))
  have HB1 := Lib.hid B
  have FP_1 := Lib.hid X0
  have FQ_1 := Lib.hid X1
  have FR_1 := Lib.hid X2
  clear B C X0 X1 X2 HB0 FT FO
  generalize (((w.alloc (.cells #[.int .i64 ax, .int .i64 ay] 28)).alloc (.cells #[.int .i64 bx, .int .i64 b_] 28)).alloc (.cells #[.int .i64 cx, .int .i64 cy] 28)) = w1 at *
  have RB1 := Lib.hid (below_drew0 w1)
  have QS1 := Lib.hid (show w1.cell? ⟨w.heap.size, 0, none⟩ = some (.int .i64 ax) ∧ w1.cell? ⟨w.heap.size, 1, none⟩ = some (.int .i64 ay) ∧ w1.cell? ⟨w.heap.size + 1, 0, none⟩ = some (.int .i64 bx) ∧ w1.cell? ⟨w.heap.size + 1, 1, none⟩ = some (.int .i64 b_) ∧ w1.cell? ⟨w.heap.size + 1 + 1, 0, none⟩ = some (.int .i64 cx) ∧ w1.cell? ⟨w.heap.size + 1 + 1, 1, none⟩ = some (.int .i64 cy) ∧ w1.cell? ⟨1, 0, none⟩ = some (.int .u64 0) from ⟨FP_1.out.cell 0 (v := .int .i64 ax) rfl, FP_1.out.cell 1 (v := .int .i64 ay) rfl, FQ_1.out.cell 0 (v := .int .i64 bx) rfl, FQ_1.out.cell 1 (v := .int .i64 b_) rfl, FR_1.out.cell 0 (v := .int .i64 cx) rfl, FR_1.out.cell 1 (v := .int .i64 cy) rfl, FO_1.out.1⟩)
  have QF1 := Lib.hid (show ∀ w', Below w1.heap.size w1 w' → w'.cell? ⟨w.heap.size, 0, none⟩ = some (.int .i64 ax) ∧ w'.cell? ⟨w.heap.size, 1, none⟩ = some (.int .i64 ay) ∧ w'.cell? ⟨w.heap.size + 1, 0, none⟩ = some (.int .i64 bx) ∧ w'.cell? ⟨w.heap.size + 1, 1, none⟩ = some (.int .i64 b_) ∧ w'.cell? ⟨w.heap.size + 1 + 1, 0, none⟩ = some (.int .i64 cx) ∧ w'.cell? ⟨w.heap.size + 1 + 1, 1, none⟩ = some (.int .i64 cy) ∧ w'.cell? ⟨1, 0, none⟩ = some (.int .u64 0) from fun w' hb => ⟨(FP_1.out.below hb (Nat.le_refl _)).cell 0 (v := .int .i64 ax) rfl, (FP_1.out.below hb (Nat.le_refl _)).cell 1 (v := .int .i64 ay) rfl, (FQ_1.out.below hb (Nat.le_refl _)).cell 0 (v := .int .i64 bx) rfl, (FQ_1.out.below hb (Nat.le_refl _)).cell 1 (v := .int .i64 b_) rfl, (FR_1.out.below hb (Nat.le_refl _)).cell 0 (v := .int .i64 cx) rfl, (FR_1.out.below hb (Nat.le_refl _)).cell 1 (v := .int .i64 cy) rfl, (FO_1.out.below hb (Nat.le_refl _)).1⟩)
  go_region_held3 (fun w' => w'.cell? ⟨w.heap.size, 0, none⟩ = some (.int .i64 ax) ∧ w'.cell? ⟨w.heap.size, 1, none⟩ = some (.int .i64 ay) ∧ w'.cell? ⟨w.heap.size + 1, 0, none⟩ = some (.int .i64 bx) ∧ w'.cell? ⟨w.heap.size + 1, 1, none⟩ = some (.int .i64 b_) ∧ w'.cell? ⟨w.heap.size + 1 + 1, 0, none⟩ = some (.int .i64 cx) ∧ w'.cell? ⟨w.heap.size + 1 + 1, 1, none⟩ = some (.int .i64 cy) ∧ w'.cell? ⟨1, 0, none⟩ = some (.int .u64 0)) (first | with_reducible exact QF1.out _ RB3.out | with_reducible exact QF1.out _ RB2.out | with_reducible exact QS1.out | with_reducible exact QF1.out _ RB1.out) (first
      | (go_at_call 56; have := RB2; clear this; refine (mask_Equal _ 0 HW.out.1 (by unfold IsW; omega) _).mono ?_; rintro e w3 ⟨rfl, rfl⟩; have RB3 := RB2)
      | (go_at_call 64; have := RB1; clear this; refine (orient_Sign _ _ _ _ _ _ hp _ (FT_1.out.below RB1.out (Nat.le_refl _))).mono ?_; rintro e w2 ⟨rfl, B⟩; have RB2 := Lib.hid (RB1.out.trans (B.mono RB1.out.size)); clear B ))
  have FT_3 := Lib.hid (FT_1.out.below RB3.out (Nat.le_refl _))
  have FO_3 := Lib.hid (FO_1.out.below RB3.out (Nat.le_refl _))
  have FP_3 := Lib.hid (FP_1.out.below RB3.out (Nat.le_refl _))
  have FQ_3 := Lib.hid (FQ_1.out.below RB3.out (Nat.le_refl _))
  have FR_3 := Lib.hid (FR_1.out.below RB3.out (Nat.le_refl _))
  have HB3 := Lib.hid (HB1.out.trans (RB3.out.mono HB1.out.size))
  clear HB1 FT_1 FO_1 FP_1 FQ_1 FR_1
  go_wp2_with fail
  go_ret
  exact ⟨rfl, HB3.out⟩

end Go.Proofs.YtoikcgmdlccdbaaDoor
