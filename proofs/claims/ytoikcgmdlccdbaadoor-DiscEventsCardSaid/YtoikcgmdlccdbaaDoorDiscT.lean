/- Contracts of package disc, with a tape. -/
import Derived.Test.YtoikcgmdlccdbaaDoorDisc
import Derived.Test.YtoikcgmdlccdbaaDoorTape2
namespace Go.Proofs.YtoikcgmdlccdbaaDoor
set_option linter.unusedVariables false
set_option linter.unusedSimpArgs false
open Go.RowKit Wd

set_option maxHeartbeats 4000000 in
theorem disc_ValidTN (tp : Option Addr) (A : Option Addr) (n c : Nat) (hn : n ≠ 3) (w : World) :
    Calls Tryd.prog 32 #[.pointer tp, .slice A n c] w fun e w' => e = .returned (.int .u64 (msk false)) ∧ Below w.heap.size w w' := by
  have HB0 := Lib.hid (Below.refl w.heap.size w)
  go_enter Tryd.func32, Tryd.ntmps32
  go_wp2_with fail
  refine (disc_fromN A n c hn _).mono ?_
  rintro e w1 ⟨rfl, B⟩
  have HB1 := Lib.hid (HB0.out.trans (B.mono HB0.out.size))
  clear B  HB0
  go_wp2_with fail
  have B : Below w.heap.size w (w1.alloc (.cells #[.int .i64 0, .int .i64 0, .int .i64 0, .int .i64 0, .int .i64 0, .int .i64 0] 69)) := (HB1.out.alloc HB1.out.size _)
  have C : Below w1.heap.size w1 (w1.alloc (.cells #[.int .i64 0, .int .i64 0, .int .i64 0, .int .i64 0, .int .i64 0, .int .i64 0] 69)) := ((Below.refl w1.heap.size w1).alloc (Nat.le_refl _) _)
  have X0 : Bx (w1.alloc (.cells #[.int .i64 0, .int .i64 0, .int .i64 0, .int .i64 0, .int .i64 0, .int .i64 0] 69)) (w1.heap.size) #[.int .i64 0, .int .i64 0, .int .i64 0, .int .i64 0, .int .i64 0, .int .i64 0] 69 := by simpa using (Bx.new w1 #[.int .i64 0, .int .i64 0, .int .i64 0, .int .i64 0, .int .i64 0, .int .i64 0] 69)
  have HB2 := Lib.hid B
  have FC_2 := Lib.hid X0
  clear B C X0 HB1 
  generalize (w1.alloc (.cells #[.int .i64 0, .int .i64 0, .int .i64 0, .int .i64 0, .int .i64 0, .int .i64 0] 69)) = w2 at *
  go_ret
  exact ⟨rfl, HB2.out⟩

set_option maxHeartbeats 4000000 in
theorem disc_LocateTN (tp : Option Addr) (A : Option Addr) (n c : Nat) (hn : n ≠ 3) (dx dy : Int) (w : World) :
    Calls Tryd.prog 34 #[.pointer tp, .slice A n c, .agg #[.int .i64 dx, .int .i64 dy]] w fun e w' => e = .returned (.int .i64 (-1)) ∧ Below w.heap.size w w' := by
  have HB0 := Lib.hid (Below.refl w.heap.size w)
  go_enter Tryd.func34, Tryd.ntmps34
  go_wp2_with fail
  have B : Below w.heap.size w (w.alloc (.cells #[.int .i64 dx, .int .i64 dy] 28)) := (HB0.out.alloc HB0.out.size _)
  have C : Below w.heap.size w (w.alloc (.cells #[.int .i64 dx, .int .i64 dy] 28)) := ((Below.refl w.heap.size w).alloc (Nat.le_refl _) _)
  have X0 : Bx (w.alloc (.cells #[.int .i64 dx, .int .i64 dy] 28)) (w.heap.size) #[.int .i64 dx, .int .i64 dy] 28 := by simpa using (Bx.new w #[.int .i64 dx, .int .i64 dy] 28)
  have HB1 := Lib.hid B
  have FP_1 := Lib.hid X0
  clear B C X0 HB0 
  generalize (w.alloc (.cells #[.int .i64 dx, .int .i64 dy] 28)) = w1 at *
  skip
  refine (disc_fromN A n c hn _).mono ?_
  rintro e w2 ⟨rfl, B⟩
  have HB2 := Lib.hid (HB1.out.trans (B.mono HB1.out.size))
  have FP_2 := Lib.hid (FP_1.out.below B (Nat.le_refl _))
  clear B  HB1 FP_1
  go_wp2_with fail
  have B : Below w.heap.size w (w2.alloc (.cells #[.int .i64 0, .int .i64 0, .int .i64 0, .int .i64 0, .int .i64 0, .int .i64 0] 69)) := (HB2.out.alloc HB2.out.size _)
  have C : Below w2.heap.size w2 (w2.alloc (.cells #[.int .i64 0, .int .i64 0, .int .i64 0, .int .i64 0, .int .i64 0, .int .i64 0] 69)) := ((Below.refl w2.heap.size w2).alloc (Nat.le_refl _) _)
  have X0 : Bx (w2.alloc (.cells #[.int .i64 0, .int .i64 0, .int .i64 0, .int .i64 0, .int .i64 0, .int .i64 0] 69)) (w2.heap.size) #[.int .i64 0, .int .i64 0, .int .i64 0, .int .i64 0, .int .i64 0, .int .i64 0] 69 := by simpa using (Bx.new w2 #[.int .i64 0, .int .i64 0, .int .i64 0, .int .i64 0, .int .i64 0, .int .i64 0] 69)
  have FP_3 := Lib.hid (FP_2.out.below C (Nat.le_refl _))
  have HB3 := Lib.hid B
  have FC_3 := Lib.hid X0
  clear B C X0 HB2 FP_2
  generalize (w2.alloc (.cells #[.int .i64 0, .int .i64 0, .int .i64 0, .int .i64 0, .int .i64 0, .int .i64 0] 69)) = w3 at *
  go_ret
  exact ⟨rfl, HB3.out⟩

set_option maxHeartbeats 4000000 in
theorem disc_ValidT3 (r : World) (T m : Nat) (evs : List Ev) (hlen : evs.length ≤ 100000) (A : Option Addr) (c : Nat) (ax ay bx b_ cx cy : Int) (hp : P3 ax ay bx b_ cx cy) (w : World) (hT : TabM r) (h3 : T3 r A c ax ay bx b_ cx cy) (hb : Below r.heap.size r w) (ht : TapeW r.heap.size w T m evs) (hTl : T < w.heap.size) :
    Calls Tryd.prog 32 #[.pointer (some ⟨T, 0, none⟩), .slice A 3 c] w fun e w' => e = .returned (.int .u64 (msk (!decide (det ax ay bx b_ cx cy = 0)))) ∧ Below r.heap.size r w' ∧ TapeW r.heap.size w' T m (evs ++ [(4, 0, 2)]) ∧ w.heap.size ≤ w'.heap.size := by
  have hnm := not_msk (decide (det ax ay bx b_ cx cy = 0))
  have RT := Lib.hid hT; have RX := Lib.hid h3; have RB := Lib.hid hb; have RW := Lib.hid ht; have RL := Lib.hid hTl; clear hT h3 hb ht hTl
  go_enter Tryd.func32, Tryd.ntmps32
  go_wp2_with fail
  have HZ0 := Lib.hid (Nat.le_refl w.heap.size); have RB0 := RB; have RW0 := RW
  obtain ⟨v0, hv0⟩ : ∃ v0, v0 = w := ⟨_, rfl⟩
  rw [← hv0] at RB0 RW0 ⊢
  have HV0 := Lib.hid hv0; clear hv0
  refine (disc_from3 A c ax ay bx b_ cx cy _ (RX.out.below RB0.out (Nat.le_refl _))).mono ?_
  rintro e w1 ⟨rfl, B1⟩
  have H1 := Lib.hid B1; have S1 := Lib.hid B1.size; clear B1
  go_wp2_with fail
  have RBC := Lib.hid ((RB0.out.trans (H1.out.mono RB0.out.size)).alloc (Nat.le_trans RB0.out.size S1.out) (.cells #[.int .i64 ax, .int .i64 ay, .int .i64 bx, .int .i64 b_, .int .i64 cx, .int .i64 cy] 69))
  have RWC := Lib.hid ((RW0.out.below H1.out (Nat.le_refl _)).below ((Below.refl w1.heap.size w1).alloc (Nat.le_refl _) (.cells #[.int .i64 ax, .int .i64 ay, .int .i64 bx, .int .i64 b_, .int .i64 cx, .int .i64 cy] 69)) (Nat.le_refl _))
  have RCB := Lib.hid (Bx.new w1 #[.int .i64 ax, .int .i64 ay, .int .i64 bx, .int .i64 b_, .int .i64 cx, .int .i64 cy] 69)
  have RSZ := Lib.hid (show (w1.alloc (.cells #[.int .i64 ax, .int .i64 ay, .int .i64 bx, .int .i64 b_, .int .i64 cx, .int .i64 cy] 69)).heap.size = w1.heap.size + 1 by simp)
  generalize w1.alloc (.cells #[.int .i64 ax, .int .i64 ay, .int .i64 bx, .int .i64 b_, .int .i64 cx, .int .i64 cy] 69) = w2 at *
  refine (tape_Note r T m evs _ _ _ (by decide) w2 RWC.out RBC.out hlen).mono ?_
  rintro e w3 ⟨rfl, hb3, ht3, hx3, hk3⟩
  have s3 := (hk3 (m + 1) (by omega)).size
  have C3 := Lib.hid (hx3 w1.heap.size #[.int .i64 ax, .int .i64 ay, .int .i64 bx, .int .i64 b_, .int .i64 cx, .int .i64 cy] 69 (by decide) (by have h1 := S1.out; have h2 := HZ0.out; have h3 := RL.out; have h4 := HV0.out; subst h4; omega) RCB.out)
  have B3 := Lib.hid hb3; have W3 := Lib.hid ht3; have S3 := Lib.hid s3; clear hb3 ht3 hx3 hk3 s3
  have k0 := C3.out.cell 0 (v := .int .i64 ax) rfl
  have k1 := C3.out.cell 1 (v := .int .i64 ay) rfl
  have k2 := C3.out.cell 2 (v := .int .i64 bx) rfl
  have k3 := C3.out.cell 3 (v := .int .i64 b_) rfl
  have k4 := C3.out.cell 4 (v := .int .i64 cx) rfl
  have k5 := C3.out.cell 5 (v := .int .i64 cy) rfl
  go_wp2_with fail
  refine (orient_Sign _ _ _ _ _ _ hp _ (RT.out.below B3.out (Nat.le_refl _))).mono ?_
  rintro e w4 ⟨rfl, B4⟩
  have H4 := Lib.hid B4; clear B4 k0 k1 k2 k3 k4 k5
  go_wp2_with fail
  refine (mask_Zero _ (isW_wrap _) _).mono ?_
  rintro e w5 ⟨rfl, rfl⟩
  rw [sg_w0]
  go_wp2_with fail
  go_ret
  refine ⟨rfl, B3.out.trans (H4.out.mono B3.out.size), W3.out.below H4.out (Nat.le_refl _), ?_⟩
  have h1 := S1.out; have h2 := HZ0.out; have h3 := S3.out; have h4 := H4.out.size; have h5 := RSZ.out; have h6 := HV0.out; subst h6
  omega
set_option maxHeartbeats 4000000 in
theorem disc_LocateT3 (r : World) (T m : Nat) (evs : List Ev) (hlen : evs.length ≤ 100000) (A : Option Addr) (c : Nat) (ax ay bx b_ cx cy dx dy : Int) (hp : P4 ax ay bx b_ cx cy dx dy) (w : World) (hT : TabM r) (h3 : T3 r A c ax ay bx b_ cx cy) (hb : Below r.heap.size r w) (ht : TapeW r.heap.size w T m evs) (hTl : T < w.heap.size) :
    Calls Tryd.prog 34 #[.pointer (some ⟨T, 0, none⟩), .slice A 3 c, .agg #[.int .i64 dx, .int .i64 dy]] w fun e w' => e = .returned (.int .i64 (sg (circ ax ay bx b_ cx cy dx dy) * sg (det ax ay bx b_ cx cy))) ∧ Below r.heap.size r w' ∧ TapeW r.heap.size w' T m (evs ++ [(6, 0, 0)]) ∧ w.heap.size ≤ w'.heap.size := by
  have hnm := not_msk (decide (det ax ay bx b_ cx cy = 0))
  have RT := Lib.hid hT; have RX := Lib.hid h3; have RB := Lib.hid hb; have RW := Lib.hid ht; have RL := Lib.hid hTl; clear hT h3 hb ht hTl
  go_enter Tryd.func34, Tryd.ntmps34
  go_wp2_with fail
  have PB := Lib.hid (Bx.new w #[.int .i64 dx, .int .i64 dy] 28)
  have RB0 := Lib.hid (RB.out.alloc RB.out.size (.cells #[.int .i64 dx, .int .i64 dy] 28))
  have RW0 := Lib.hid (RW.out.below ((Below.refl w.heap.size w).alloc (Nat.le_refl _) (.cells #[.int .i64 dx, .int .i64 dy] 28)) (Nat.le_refl _))
  have HZ0 := Lib.hid (show w.heap.size + 1 = (w.alloc (.cells #[.int .i64 dx, .int .i64 dy] 28)).heap.size by simp)
  generalize w.alloc (.cells #[.int .i64 dx, .int .i64 dy] 28) = v0 at *
  refine (disc_from3 A c ax ay bx b_ cx cy _ (RX.out.below RB0.out (Nat.le_refl _))).mono ?_
  rintro e w1 ⟨rfl, B1⟩
  have H1 := Lib.hid B1; have S1 := Lib.hid B1.size; clear B1
  go_wp2_with fail
  have RBC := Lib.hid ((RB0.out.trans (H1.out.mono RB0.out.size)).alloc (Nat.le_trans RB0.out.size S1.out) (.cells #[.int .i64 ax, .int .i64 ay, .int .i64 bx, .int .i64 b_, .int .i64 cx, .int .i64 cy] 69))
  have RWC := Lib.hid ((RW0.out.below H1.out (Nat.le_refl _)).below ((Below.refl w1.heap.size w1).alloc (Nat.le_refl _) (.cells #[.int .i64 ax, .int .i64 ay, .int .i64 bx, .int .i64 b_, .int .i64 cx, .int .i64 cy] 69)) (Nat.le_refl _))
  have RCB := Lib.hid (Bx.new w1 #[.int .i64 ax, .int .i64 ay, .int .i64 bx, .int .i64 b_, .int .i64 cx, .int .i64 cy] 69)
  have RPB := Lib.hid ((PB.out.below H1.out (Nat.le_refl _)).alloc (.cells #[.int .i64 ax, .int .i64 ay, .int .i64 bx, .int .i64 b_, .int .i64 cx, .int .i64 cy] 69))
  have RSZ := Lib.hid (show (w1.alloc (.cells #[.int .i64 ax, .int .i64 ay, .int .i64 bx, .int .i64 b_, .int .i64 cx, .int .i64 cy] 69)).heap.size = w1.heap.size + 1 by simp)
  generalize w1.alloc (.cells #[.int .i64 ax, .int .i64 ay, .int .i64 bx, .int .i64 b_, .int .i64 cx, .int .i64 cy] 69) = w2 at *
  refine (tape_Note r T m evs _ _ _ (by decide) w2 RWC.out RBC.out hlen).mono ?_
  rintro e w3 ⟨rfl, hb3, ht3, hx3, hk3⟩
  have s3 := (hk3 (m + 1) (by omega)).size
  have C3 := Lib.hid (hx3 w1.heap.size #[.int .i64 ax, .int .i64 ay, .int .i64 bx, .int .i64 b_, .int .i64 cx, .int .i64 cy] 69 (by decide) (by have h1 := S1.out; have h2 := HZ0.out; have h3 := RL.out; omega) RCB.out)
  have P3_ := Lib.hid (hx3 w.heap.size #[.int .i64 dx, .int .i64 dy] 28 (by decide) (by have h3 := RL.out; omega) RPB.out)
  have B3 := Lib.hid hb3; have W3 := Lib.hid ht3; have S3 := Lib.hid s3; clear hb3 ht3 hx3 hk3 s3
  have k0 := C3.out.cell 0 (v := .int .i64 ax) rfl
  have k1 := C3.out.cell 1 (v := .int .i64 ay) rfl
  have k2 := C3.out.cell 2 (v := .int .i64 bx) rfl
  have k3 := C3.out.cell 3 (v := .int .i64 b_) rfl
  have k4 := C3.out.cell 4 (v := .int .i64 cx) rfl
  have k5 := C3.out.cell 5 (v := .int .i64 cy) rfl
  have l0 := P3_.out.cell 0 (v := .int .i64 dx) rfl; have l1 := P3_.out.cell 1 (v := .int .i64 dy) rfl
  go_wp2_with fail
  refine (circle_Side _ _ _ _ _ _ _ _ hp _ (RT.out.below B3.out (Nat.le_refl _))).mono ?_
  rintro e w4 ⟨rfl, B4⟩
  have H4 := Lib.hid B4; clear B4 k0 k1 k2 k3 k4 k5 l0 l1
  go_wp2_with fail
  go_ret
  refine ⟨rfl, B3.out.trans (H4.out.mono B3.out.size), W3.out.below H4.out (Nat.le_refl _), ?_⟩
  have h1 := S1.out; have h2 := HZ0.out; have h3 := S3.out; have h4 := H4.out.size; have h5 := RSZ.out
  omega
end Go.Proofs.YtoikcgmdlccdbaaDoor
