/- Contracts of the helpers of layer 5's laws: limbs, is, value, alive. -/
import Derived.Test.YtfjanlfbnliokaaRef5
import Derived.Test.YtfjanlfbnliokaaDiff
import Derived.Test.YtfjanlfbnliokaaRef3f
import Derived.Test.YtfjanlfbnliokaaRef3g
import Derived.Test.YtfjanlfbnliokaaBoxN
import Derived.Deep.DeepCutAuto
import Derived.Test.YtfjanlfbnliokaaRegC
namespace Go.Proofs.Ytfjanlfbnliokaa
set_option linter.unusedVariables false
set_option linter.unusedSimpArgs false
open Go.RowKit Wd

set_option maxHeartbeats 1000000 in
theorem law5_limbs (A U : Option Addr) (n c k ck : Nat) (x y ni : Int) (hni : ni = n) (w : World) (ha : Sl w .u64 A n c (lmb y)) (hu : Nm w U k ck x) (he : ∀ i, i < n → lmb y i = lmb x i) (hk : k ≤ 40000) (hn : n ≤ 8) :
    Calls Try.prog 12 #[.slice A n c, .agg #[.int .i64 (sg x), .slice U k ck], .int .i64 ni] w fun e w' => e = .returned (.bool true) ∧ Below w.heap.size w w' := by
  have HB0 := Lib.hid (Below.refl w.heap.size w)
  have FA := Lib.hid ha
  have FU := Lib.hid hu
  clear ha hu
  have HE := Lib.hid he; clear he
  subst hni
  go_enter Try.func12, Try.ntmps12
  go_wp2_with fail
  refine (ref3_Limbs _ _ _ _ _ n rfl _ (FU.out.alloc _) hk hn).mono ?_
  rintro e w1 ⟨⟨A2, c2, rfl, S2⟩, B⟩
  have HB1 := Lib.hid ((HB0.out.alloc HB0.out.size _).trans (B.mono (HB0.out.alloc HB0.out.size _).size))
  have FA_1 := Lib.hid ((FA.out.alloc _).below B (Nat.le_refl _))
  have FU_1 := Lib.hid ((FU.out.alloc _).below B (Nat.le_refl _))
  have FL_1 := Lib.hid S2
  clear B S2 HB0 FA FU
  go_wp2_with fail
  refine (ref3_Same _ _ _ _ _ _ _ _ FA_1.out FL_1.out (fun i hi => HE.out i hi)).mono ?_
  rintro e w2 ⟨rfl, B⟩
  have HB2 := Lib.hid (HB1.out.trans (B.mono HB1.out.size))
  have FA_2 := Lib.hid (FA_1.out.below B (Nat.le_refl _))
  have FU_2 := Lib.hid (FU_1.out.below B (Nat.le_refl _))
  have FL_2 := Lib.hid (FL_1.out.below B (Nat.le_refl _))
  clear B  HB1 FA_1 FU_1 FL_1
  go_wp2_with fail
  go_ret
  exact ⟨rfl, HB2.out⟩

set_option maxHeartbeats 1000000 in
theorem law5_is (A1 A2 : Option Addr) (n1 n2 c1 c2 : Nat) (w : World) :
    Calls Try.prog 21 #[.agg #[.slice A1 n1 c1, .slice A2 n2 c2]] w fun e w' => e = .returned (.bool (vB n1 n2)) ∧ Below w.heap.size w w' := by
  have HB0 := Lib.hid (Below.refl w.heap.size w)
  by_cases h : n1 = 2
  rotate_left
  · have e1 : ((n1 : Int) == 2) = false := by simp; omega
    rw [show vB n1 n2 = false from by simp [vB, h]]
    go_enter Try.func21, Try.ntmps21
    go_wp2_with fail
    go_ret
    exact ⟨rfl, (HB0.out.alloc HB0.out.size _)⟩
  subst h
  by_cases h : n2 = 2
  rotate_left
  · have e1 : ((n2 : Int) == 2) = false := by simp; omega
    rw [show vB 2 n2 = false from by simp [vB, h]]
    go_enter Try.func21, Try.ntmps21
    go_wp2_with fail
    go_ret
    exact ⟨rfl, (HB0.out.alloc HB0.out.size _)⟩
  subst h
  rw [show vB 2 2 = true from rfl]
  go_enter Try.func21, Try.ntmps21
  go_wp2_with fail
  go_ret
  exact ⟨rfl, (HB0.out.alloc HB0.out.size _)⟩

set_option maxHeartbeats 1000000 in
theorem law5_value (A1 A2 : Option Addr) (n1 n2 c1 c2 : Nat) (x y : Int) (w : World) (a1 : Sl w .u64 A1 n1 c1 (lmb x)) (a2 : Sl w .u64 A2 n2 c2 (lmb y)) (f1 : Fit n1 x) (f2 : Fit n2 y) (h1 : n1 ≤ 1000) (h2 : n2 ≤ 1000) :
    Calls Try.prog 22 #[.agg #[.slice A1 n1 c1, .slice A2 n2 c2]] w fun e w' => (∃ A k c A' k' c', e = .returned (.agg #[.int .i64 (sg (x)), .slice A k c, .int .i64 (sg (y)), .slice A' k' c']) ∧ (k ≤ 4 * n1 + 2 ∧ k' ≤ 4 * n2 + 2) ∧ Nm w' A k c x ∧ Nm w' A' k' c' y) ∧ Below w.heap.size w w' := by
  have HB0 := Lib.hid (Below.refl w.heap.size w)
  have FX := Lib.hid a1
  have FY := Lib.hid a2
  clear a1 a2
  go_enter Try.func22, Try.ntmps22
  go_wp2_with fail
  have B : Below w.heap.size w ((w.alloc (.cells #[.slice A1 n1 c1, .slice A2 n2 c2] 43)).alloc (.cells #[.int .i64 0, .slice none 0 0, .int .i64 0, .slice none 0 0] 32)) := ((HB0.out.alloc HB0.out.size _).alloc (HB0.out.alloc HB0.out.size _).size _)
  have C : Below w.heap.size w ((w.alloc (.cells #[.slice A1 n1 c1, .slice A2 n2 c2] 43)).alloc (.cells #[.int .i64 0, .slice none 0 0, .int .i64 0, .slice none 0 0] 32)) := (((Below.refl w.heap.size w).alloc (Nat.le_refl _) _).alloc (by simp; try omega) _)
  have X0 : Bx ((w.alloc (.cells #[.slice A1 n1 c1, .slice A2 n2 c2] 43)).alloc (.cells #[.int .i64 0, .slice none 0 0, .int .i64 0, .slice none 0 0] 32)) (w.heap.size) #[.slice A1 n1 c1, .slice A2 n2 c2] 43 := by simpa using ((Bx.new w #[.slice A1 n1 c1, .slice A2 n2 c2] 43).alloc _)
  have X1 : Bx ((w.alloc (.cells #[.slice A1 n1 c1, .slice A2 n2 c2] 43)).alloc (.cells #[.int .i64 0, .slice none 0 0, .int .i64 0, .slice none 0 0] 32)) (w.heap.size + 1) #[.int .i64 0, .slice none 0 0, .int .i64 0, .slice none 0 0] 32 := by simpa using (Bx.new (w.alloc (.cells #[.slice A1 n1 c1, .slice A2 n2 c2] 43)) #[.int .i64 0, .slice none 0 0, .int .i64 0, .slice none 0 0] 32)
  have FX_1 := Lib.hid (FX.out.below C (Nat.le_refl _))
  have FY_1 := Lib.hid (FY.out.below C (Nat.le_refl _))
  have HB1 := Lib.hid B
  have FU_1 := Lib.hid X0
  have FR_1 := Lib.hid X1
  clear B C X0 X1 HB0 FX FY
  generalize ((w.alloc (.cells #[.slice A1 n1 c1, .slice A2 n2 c2] 43)).alloc (.cells #[.int .i64 0, .slice none 0 0, .int .i64 0, .slice none 0 0] 32)) = w1 at *
  have RB1 := Lib.hid (below_drew0 w1)
  have QS1 := Lib.hid (show w1.cell? ⟨w.heap.size, 0, none⟩ = some (.slice A1 n1 c1) ∧ w1.cell? ⟨w.heap.size, 1, none⟩ = some (.slice A2 n2 c2) from ⟨FU_1.out.cell 0 (v := .slice A1 n1 c1) rfl, FU_1.out.cell 1 (v := .slice A2 n2 c2) rfl⟩)
  have QF1 := Lib.hid (show ∀ w', Below w1.heap.size w1 w' → w'.cell? ⟨w.heap.size, 0, none⟩ = some (.slice A1 n1 c1) ∧ w'.cell? ⟨w.heap.size, 1, none⟩ = some (.slice A2 n2 c2) from fun w' hb => ⟨(FU_1.out.below hb (Nat.le_refl _)).cell 0 (v := .slice A1 n1 c1) rfl, (FU_1.out.below hb (Nat.le_refl _)).cell 1 (v := .slice A2 n2 c2) rfl⟩)
  go_region_held3 (fun w' => w'.cell? ⟨w.heap.size, 0, none⟩ = some (.slice A1 n1 c1) ∧ w'.cell? ⟨w.heap.size, 1, none⟩ = some (.slice A2 n2 c2)) (first | with_reducible exact QF1.out _ RB3.out | with_reducible exact QF1.out _ RB2.out | with_reducible exact QS1.out | with_reducible exact QF1.out _ RB1.out | with_reducible exact ⟨keep_set (keep_set (keep_set (keep_set ((QF1.out _ RB3.out).1) (by simp <;> omega)) (by simp <;> omega)) (by simp <;> omega)) (by simp <;> omega), keep_set (keep_set (keep_set (keep_set ((QF1.out _ RB3.out).2) (by simp <;> omega)) (by simp <;> omega)) (by simp <;> omega)) (by simp <;> omega)⟩) (first
      | (go_at_call 25; have := RB2; clear this; refine (ref3_Value A2 n2 c2 y _ (FY_1.out.below RB2.out (Nat.le_refl _)) f2 h2).mono ?_; rintro e w3 ⟨⟨P2, p2, g2, rfl, b2, N2⟩, B⟩; have RB3 := Lib.hid (RB2.out.trans (B.mono RB2.out.size)); have RV1_3 := Lib.hid (RV1_2.out.below B (Nat.le_refl _)); have RV2_3 := Lib.hid N2; clear B N2; have q0 := (FR_1.out.below RB3.out (Nat.le_refl _)).cell 0 (v := .int .i64 0) rfl; have q1 := (FR_1.out.below RB3.out (Nat.le_refl _)).cell 1 (v := .slice none 0 0) rfl; have q2 := (FR_1.out.below RB3.out (Nat.le_refl _)).cell 2 (v := .int .i64 0) rfl; have q3 := (FR_1.out.below RB3.out (Nat.le_refl _)).cell 3 (v := .slice none 0 0) rfl; have z0 := (FR_1.out.below RB3.out (Nat.le_refl _)).free 0; have z1 := (FR_1.out.below RB3.out (Nat.le_refl _)).free 1; have z2 := (FR_1.out.below RB3.out (Nat.le_refl _)).free 2; have z3 := (FR_1.out.below RB3.out (Nat.le_refl _)).free 3)
      | (go_at_call 25; have := RB1; clear this; refine (ref3_Value A1 n1 c1 x _ (FX_1.out.below RB1.out (Nat.le_refl _)) f1 h1).mono ?_; rintro e w2 ⟨⟨P1, p1, g1, rfl, b1, N1⟩, B⟩; have RB2 := Lib.hid (RB1.out.trans (B.mono RB1.out.size)); have RV1_2 := Lib.hid N1; clear B N1))
  have FX_3 := Lib.hid (FX_1.out.below RB3.out (Nat.le_refl _))
  have FY_3 := Lib.hid (FY_1.out.below RB3.out (Nat.le_refl _))
  have FU_3 := Lib.hid (FU_1.out.below RB3.out (Nat.le_refl _))
  have FR_3 := Lib.hid (FR_1.out.below RB3.out (Nat.le_refl _))
  have HB3 := Lib.hid (HB1.out.trans (RB3.out.mono HB1.out.size))
  clear HB1 FX_1 FY_1 FU_1 FR_1
  go_wp2_with fail
  have r0 := FR_3.out
  have r1 := r0.set 0 (.int .i64 (sg x))
  have r2 := r1.set 1 (.slice P1 p1 g1)
  have r3 := r2.set 2 (.int .i64 (sg y))
  refine bodyPost_ret (v := .agg #[.int .i64 (sg x), .slice P1 p1 g1, .int .i64 (sg y), .slice P2 p2 g2]) (by simp [results, Try.results22, go_sem, q0, q1, q2, q3]) rfl ⟨⟨P1, p1, g1, P2, p2, g2, rfl, ⟨b1, b2⟩, ((((RV1_3.out.setB r0 (by decide)).setB r1 (by decide)).setB r2 (by decide)).setB r3 (by decide)), ((((RV2_3.out.setB r0 (by decide)).setB r1 (by decide)).setB r2 (by decide)).setB r3 (by decide))⟩, ?_⟩
  exact ((((HB3.out.setCell (p := ⟨w.heap.size + 1, 0, none⟩) (by simp <;> omega) _).setCell (p := ⟨w.heap.size + 1, 1, none⟩) (by simp <;> omega) _).setCell (p := ⟨w.heap.size + 1, 2, none⟩) (by simp <;> omega) _).setCell (p := ⟨w.heap.size + 1, 3, none⟩) (by simp <;> omega) _)

/-- two vectors lie in boxes of their own -/
def CutVV (w : World) (x1 y1 x2 y2 : Int) (s7 s8 : Value) (wx : World) : Prop := ∃ (b7 b8 : Nat) (U1 : Option Addr) (u1 : Nat) (V1 : Option Addr) (v1 : Nat) (U2 : Option Addr) (u2 : Nat) (V2 : Option Addr) (v2 : Nat),
  s7 = .pointer (some ⟨b7, 0, none⟩) ∧ s8 = .pointer (some ⟨b8, 0, none⟩) ∧ Bx wx b7 #[.slice U1 2 u1, .slice V1 2 v1] 26 ∧ Bx wx b8 #[.slice U2 2 u2, .slice V2 2 v2] 26 ∧
  Sl wx .u64 U1 2 u1 (lmb x1) ∧ Sl wx .u64 V1 2 v1 (lmb y1) ∧ Sl wx .u64 U2 2 u2 (lmb x2) ∧ Sl wx .u64 V2 2 v2 (lmb y2) ∧ Below w.heap.size w wx
theorem isI0 : IsI 0 := by unfold IsI; omega
theorem isI1 : IsI 1 := by unfold IsI; omega
theorem sl_eq4 {w1 w2 : World} {k : IntKind} {A : Option Addr} {m : Nat} {f : Nat → Int} (h : w1 = w2) (hm : m = 4) (s : Sl w2 k A 4 4 f) : Sl w1 k A 4 m f := by subst h hm; exact s
theorem fitN1 : Fit 2 (-(1 - 0)) := by unfold Fit; rw [show S 2 = 340282366920938463463374607431768211456 from rfl]; omega
theorem fitN0 : Fit 2 (-(0 - 0)) := by unfold Fit; rw [show S 2 = 340282366920938463463374607431768211456 from rfl]; omega
theorem isIm : IsI (-9223372036854775808) := by unfold IsI; omega
theorem isIM : IsI 9223372036854775807 := by unfold IsI; omega
theorem sl_two (w : World) (a b : Int) (t : TypeId) (f : Nat → Int) (h0 : f 0 = a) (h1 : f 1 = b) : Sl (w.alloc (.cells #[.int .u64 a, .int .u64 b] t)) .u64 (some ⟨w.heap.size, 0, none⟩) 2 2 f :=
  ⟨Nat.le_refl _, by decide, fun _ => ⟨w.heap.size, 0, rfl, by simp, fun i hi => by
    rcases (by omega : i = 0 ∨ i = 1) with h | h
    · subst h; simp [go_sem, h0]
    · subst h; simp [go_sem, h1]⟩⟩
theorem sl_four (w : World) (a b c d : Int) (t : TypeId) (f : Nat → Int) (h0 : f 0 = a) (h1 : f 1 = b) (h2 : f 2 = c) (h3 : f 3 = d) : Sl (w.alloc (.cells #[.int .u64 a, .int .u64 b, .int .u64 c, .int .u64 d] t)) .u64 (some ⟨w.heap.size, 0, none⟩) 4 4 f :=
  ⟨Nat.le_refl _, by decide, fun _ => ⟨w.heap.size, 0, rfl, by simp, fun i hi => by
    rcases (by omega : i = 0 ∨ i = 1 ∨ i = 2 ∨ i = 3) with h | h | h | h
    · subst h; simp [go_sem, h0]
    · subst h; simp [go_sem, h1]
    · subst h; simp [go_sem, h2]
    · subst h; simp [go_sem, h3]⟩⟩
set_option maxHeartbeats 4000000 in
theorem alive5  (w : World) :
    Calls Try.prog 11 #[] w fun e w' => e = .returned (.bool true) ∧ Below w.heap.size w w' := by
  have HB0 := Lib.hid (Below.refl w.heap.size w)
  go_enter Try.func11, Try.ntmps11
  go_wp2_with fail
  have B : Below w.heap.size w (w.alloc (.cells #[.int .i64 0, .int .i64 0] 23)) := (HB0.out.alloc HB0.out.size _)
  have C : Below w.heap.size w (w.alloc (.cells #[.int .i64 0, .int .i64 0] 23)) := ((Below.refl w.heap.size w).alloc (Nat.le_refl _) _)
  have X0 : Bx (w.alloc (.cells #[.int .i64 0, .int .i64 0] 23)) (w.heap.size) #[.int .i64 0, .int .i64 0] 23 := by simpa using (Bx.new w #[.int .i64 0, .int .i64 0] 23)
  have HB1 := Lib.hid B
  have FO_1 := Lib.hid X0
  clear B C X0 HB0 
  generalize (w.alloc (.cells #[.int .i64 0, .int .i64 0] 23)) = w1 at *
  have RB1 := Lib.hid (below_drew0 w1)
  refine wp_region_held_drew (S := fun _ => True) (by kernel_rfl) trivial (fun _ => ?_)
  refine wpAnyH_gen [(⟨6, 8, 2, 26, #[.slice none 0 0, .slice none 0 0], []⟩, fun cs w => ∃ (U : Option Addr) (u : Nat) (V : Option Addr) (v : Nat), cs = #[.slice U 2 u, .slice V 2 v] ∧ Sl w .u64 U 2 u (lmb (1 - 0)) ∧ Sl w .u64 V 2 v (lmb (0 - 0))), (⟨7, 9, 3, 26, #[.slice none 0 0, .slice none 0 0], []⟩, fun cs w => ∃ (U : Option Addr) (u : Nat) (V : Option Addr) (v : Nat), cs = #[.slice U 2 u, .slice V 2 v] ∧ Sl w .u64 U 2 u (lmb (0 - 0)) ∧ Sl w .u64 V 2 v (lmb (1 - 0)))] [⟨0, 5, fun x _ => x = .agg #[.int .i64 0, .int .i64 0]⟩, ⟨1, 6, fun x _ => x = .agg #[.int .i64 1, .int .i64 0]⟩, ⟨2, 7, fun x w => ∃ (U : Option Addr) (u : Nat) (V : Option Addr) (v : Nat), x = .agg #[.slice U 2 u, .slice V 2 v] ∧ Sl w .u64 U 2 u (lmb (1 - 0)) ∧ Sl w .u64 V 2 v (lmb (0 - 0))⟩, ⟨3, 8, fun x _ => x = .agg #[.int .i64 0, .int .i64 0]⟩, ⟨4, 9, fun x _ => x = .agg #[.int .i64 0, .int .i64 1]⟩, ⟨5, 10, fun x w => ∃ (U : Option Addr) (u : Nat) (V : Option Addr) (v : Nat), x = .agg #[.slice U 2 u, .slice V 2 v] ∧ Sl w .u64 U 2 u (lmb (0 - 0)) ∧ Sl w .u64 V 2 v (lmb (1 - 0))⟩] (by kernel_rfl) (by kernel_rfl) (fun _ => trivial) ?_ ?_ ?_ ?_ ?_ ?_
  · refine ⟨?_, ?_, trivial⟩
    all_goals exact ⟨fun cs => by (dsimp only; repeat (first | exact Stay.const _ | exact Stay.sl _ _ _ _ | exact Stay.nm _ _ _ _ | exact Stay.bx _ _ _ _ | refine Stay.ex fun _ => ?_ | refine Stay.and ?_ ?_)), by decide, by simp [NoU]⟩
  · refine ⟨?_, ?_, ?_, ?_, ?_, ?_, trivial⟩
    all_goals (intro x; (dsimp only; repeat (first | exact Stay.const _ | exact Stay.sl _ _ _ _ | exact Stay.nm _ _ _ _ | exact Stay.bx _ _ _ _ | refine Stay.ex fun _ => ?_ | refine Stay.and ?_ ?_)))
  · refine ⟨?_, ?_, trivial⟩
    all_goals (intro a w K h; refine wpOp_step (by simp only [List.getElem?_toArray, List.getElem?_cons_succ, List.getElem?_cons_zero]; rfl) (fun K' hK => ?_); go_simp; exact hK _ _ h)
  · refine ⟨?_, ?_, trivial⟩
    · intro a w B K ht hd hs hb hK
      obtain ⟨x7, hx7, hp7⟩ := hd 2 _ rfl (by kernel_rfl)
      obtain ⟨U2, u2, V2, v2, rfl, S2, T2⟩ := hp7
      have es7 : a.tmps.getD 7 undef = _ := getD_of hx7; clear hx7
      clear ht hd
      have c0 := hb.cell 0 (v := .slice none 0 0) rfl; have z0 := hb.free 0
      have c1 := hb.cell 1 (v := .slice none 0 0) rfl; have z1 := hb.free 1
      have HK := Lib.hid (hK [.slice U2 2 u2, .slice V2 2 v2] rfl (by simp [NoU]) ⟨U2, u2, V2, v2, rfl, S2, T2⟩); clear hK hb
      simp only [ptrTo] at hs
      have esB : a.tmps.getD 2 undef = _ := getD_of hs; clear hs
      refine wpOp_step (by simp only [List.getElem?_toArray, List.getElem?_cons_succ, List.getElem?_cons_zero]; rfl) (fun K' hK' => ?_)
      go_simp
      exact hK' _ _ HK.out
    · intro a w B K ht hd hs hb hK
      obtain ⟨x10, hx10, hp10⟩ := hd 5 _ rfl (by kernel_rfl)
      obtain ⟨U5, u5, V5, v5, rfl, S5, T5⟩ := hp10
      have es10 : a.tmps.getD 10 undef = _ := getD_of hx10; clear hx10
      clear ht hd
      have c0 := hb.cell 0 (v := .slice none 0 0) rfl; have z0 := hb.free 0
      have c1 := hb.cell 1 (v := .slice none 0 0) rfl; have z1 := hb.free 1
      have HK := Lib.hid (hK [.slice U5 2 u5, .slice V5 2 v5] rfl (by simp [NoU]) ⟨U5, u5, V5, v5, rfl, S5, T5⟩); clear hK hb
      simp only [ptrTo] at hs
      have esB : a.tmps.getD 3 undef = _ := getD_of hs; clear hs
      refine wpOp_step (by simp only [List.getElem?_toArray, List.getElem?_cons_succ, List.getElem?_cons_zero]; rfl) (fun K' hK' => ?_)
      go_simp
      exact hK' _ _ HK.out
  · refine ⟨?_, ?_, ?_, ?_, ?_, ?_, trivial⟩
    · intro a w K hb ht hd hK
      have hbw := Lib.hid (below_tr RB1.out hb); clear hb
      have hx1 := (ht 1 rfl).trans rfl
      have es1 : a.tmps.getD 1 undef = _ := getD_of hx1; clear hx1
      clear ht hd
      have c0 := (FO_1.out.below hbw.out (Nat.le_refl _)).cell 0 (v := .int .i64 0) rfl
      have c1 := (FO_1.out.below hbw.out (Nat.le_refl _)).cell 1 (v := .int .i64 0) rfl
      have HK := Lib.hid hK; clear hK
      refine wpOp_step (by simp only [List.getElem?_toArray, List.getElem?_cons_succ, List.getElem?_cons_zero]; rfl) (fun K' hK' => ?_)
      have HK' := Lib.hid hK'; clear hK'
      go_simp
      exact HK'.out _ _ (HK.out _ _ below_rf rfl)
    · intro a w K hb ht hd hK
      have hbw := Lib.hid (below_tr RB1.out hb); clear hb
      clear ht hd
      have HK := Lib.hid hK; clear hK
      refine wpOp_step (by simp only [List.getElem?_toArray, List.getElem?_cons_succ, List.getElem?_cons_zero]; rfl) (fun K' hK' => ?_)
      have HK' := Lib.hid hK'; clear hK'
      go_simp
      exact HK'.out _ _ (HK.out _ _ below_rf rfl)
    · intro a w K hb ht hd hK
      have hbw := Lib.hid (below_tr RB1.out hb); clear hb
      obtain ⟨x5, hx5, hp5⟩ := hd 0 _ rfl (by kernel_rfl)
      obtain rfl := hp5
      have es5 : a.tmps.getD 5 undef = _ := getD_of hx5; clear hx5
      obtain ⟨x6, hx6, hp6⟩ := hd 1 _ rfl (by kernel_rfl)
      obtain rfl := hp6
      have es6 : a.tmps.getD 6 undef = _ := getD_of hx6; clear hx6
      clear ht hd
      have HK := Lib.hid hK; clear hK
      refine wpOp_step (by simp only [List.getElem?_toArray, List.getElem?_cons_succ, List.getElem?_cons_zero]; rfl) (fun K' hK' => ?_)
      have HK' := Lib.hid hK'; clear hK'
      go_simp
      refine (diff_Between 0 0 1 0 isI0 isI0 isI1 isI0 _).mono ?_
      rintro e w1 ⟨⟨U, u, V, v, rfl, S, T⟩, B⟩
      go_wp2_with fail
      exact HK'.out _ _ (HK.out _ _ B ⟨U, u, V, v, rfl, S, T⟩)
    · intro a w K hb ht hd hK
      have hbw := Lib.hid (below_tr RB1.out hb); clear hb
      have hx1 := (ht 1 rfl).trans rfl
      have es1 : a.tmps.getD 1 undef = _ := getD_of hx1; clear hx1
      clear ht hd
      have c0 := (FO_1.out.below hbw.out (Nat.le_refl _)).cell 0 (v := .int .i64 0) rfl
      have c1 := (FO_1.out.below hbw.out (Nat.le_refl _)).cell 1 (v := .int .i64 0) rfl
      have HK := Lib.hid hK; clear hK
      refine wpOp_step (by simp only [List.getElem?_toArray, List.getElem?_cons_succ, List.getElem?_cons_zero]; rfl) (fun K' hK' => ?_)
      have HK' := Lib.hid hK'; clear hK'
      go_simp
      exact HK'.out _ _ (HK.out _ _ below_rf rfl)
    · intro a w K hb ht hd hK
      have hbw := Lib.hid (below_tr RB1.out hb); clear hb
      clear ht hd
      have HK := Lib.hid hK; clear hK
      refine wpOp_step (by simp only [List.getElem?_toArray, List.getElem?_cons_succ, List.getElem?_cons_zero]; rfl) (fun K' hK' => ?_)
      have HK' := Lib.hid hK'; clear hK'
      go_simp
      exact HK'.out _ _ (HK.out _ _ below_rf rfl)
    · intro a w K hb ht hd hK
      have hbw := Lib.hid (below_tr RB1.out hb); clear hb
      obtain ⟨x8, hx8, hp8⟩ := hd 3 _ rfl (by kernel_rfl)
      obtain rfl := hp8
      have es8 : a.tmps.getD 8 undef = _ := getD_of hx8; clear hx8
      obtain ⟨x9, hx9, hp9⟩ := hd 4 _ rfl (by kernel_rfl)
      obtain rfl := hp9
      have es9 : a.tmps.getD 9 undef = _ := getD_of hx9; clear hx9
      clear ht hd
      have HK := Lib.hid hK; clear hK
      refine wpOp_step (by simp only [List.getElem?_toArray, List.getElem?_cons_succ, List.getElem?_cons_zero]; rfl) (fun K' hK' => ?_)
      have HK' := Lib.hid hK'; clear hK'
      go_simp
      refine (diff_Between 0 0 0 1 isI0 isI0 isI0 isI1 _).mono ?_
      rintro e w1 ⟨⟨U, u, V, v, rfl, S, T⟩, B⟩
      go_wp2_with fail
      exact HK'.out _ _ (HK.out _ _ B ⟨U, u, V, v, rfl, S, T⟩)
  · intro w2 X B hb hv hx hd
    simp only [List.foldl_cons, List.foldl_nil, Act.put, List.setIfInBounds_toArray, List.set_cons_zero, List.set_cons_succ, ptrTo]
    obtain ⟨hv0, hv1, hv2, hv3, hv4, hv5, -⟩ := hv
    obtain ⟨⟨hn2, cs2, hx2, hg2⟩, ⟨hn3, cs3, hx3, hg3⟩, -⟩ := hx
    clear hd
    have hV0 : (fun x _ => x = .agg #[.int .i64 0, .int .i64 0]) (X 5) w2 := hv0; clear hv0; have hv0 := hV0; clear hV0; generalize X 5 = X5 at *
    have hV1 : (fun x _ => x = .agg #[.int .i64 1, .int .i64 0]) (X 6) w2 := hv1; clear hv1; have hv1 := hV1; clear hV1; generalize X 6 = X6 at *
    have hV2 : (fun x w => ∃ (U : Option Addr) (u : Nat) (V : Option Addr) (v : Nat), x = .agg #[.slice U 2 u, .slice V 2 v] ∧ Sl w .u64 U 2 u (lmb (1 - 0)) ∧ Sl w .u64 V 2 v (lmb (0 - 0))) (X 7) w2 := hv2; clear hv2; have hv2 := hV2; clear hV2; generalize X 7 = X7 at *
    have hV3 : (fun x _ => x = .agg #[.int .i64 0, .int .i64 0]) (X 8) w2 := hv3; clear hv3; have hv3 := hV3; clear hV3; generalize X 8 = X8 at *
    have hV4 : (fun x _ => x = .agg #[.int .i64 0, .int .i64 1]) (X 9) w2 := hv4; clear hv4; have hv4 := hV4; clear hV4; generalize X 9 = X9 at *
    have hV5 : (fun x w => ∃ (U : Option Addr) (u : Nat) (V : Option Addr) (v : Nat), x = .agg #[.slice U 2 u, .slice V 2 v] ∧ Sl w .u64 U 2 u (lmb (0 - 0)) ∧ Sl w .u64 V 2 v (lmb (1 - 0))) (X 10) w2 := hv5; clear hv5; have hv5 := hV5; clear hV5; generalize X 10 = X10 at *
    have hx2' : Bx w2 (B 2) cs2 26 := hx2; clear hx2; generalize B 2 = b2 at *
    have hx3' : Bx w2 (B 3) cs3 26 := hx3; clear hx3; generalize B 3 = b3 at *
    have hn2' : w1.heap.size ≤ b2 := hn2; clear hn2
    have hn3' : w1.heap.size ≤ b3 := hn3; clear hn3
    obtain rfl := hv0
    obtain rfl := hv1
    clear hv2
    obtain rfl := hv3
    obtain rfl := hv4
    clear hv5
    obtain ⟨U2, u2, V2, v2, rfl, S2, T2⟩ := hg2
    obtain ⟨U3, u3, V3, v3, rfl, S3, T3⟩ := hg3
    have RC := Lib.hid (below_tr RB1.out hb); clear hb
    have FO_2 := Lib.hid (FO_1.out.below RC.out (Nat.le_refl _))
    have HB2 := Lib.hid (HB1.out.trans (RC.out.mono HB1.out.size))
    clear HB1 FO_1 RC RB1
    have FU := Lib.hid hx2'; clear hx2'
    have FS2 := Lib.hid S2; clear S2
    have FT2 := Lib.hid T2; clear T2
    have FV := Lib.hid hx3'; clear hx3'
    have FS3 := Lib.hid S3; clear S3
    have FT3 := Lib.hid T3; clear T3
    go_wp2_with fail
    have RB2 := Lib.hid (below_drew0 w2)
    refine wp_region_held_drew (S := fun _ => True) (by kernel_rfl) trivial (fun _ => ?_)
    refine wpAnyH_gen [] [⟨0, 11, fun x w => ∃ (A : Option Addr) (c : Nat), x = .slice A 2 c ∧ Sl w .u64 A 2 c (lmb (-9223372036854775808 - 9223372036854775807))⟩, ⟨1, 12, fun x w => ∃ (A : Option Addr) (c : Nat), x = .slice A 2 c ∧ Sl w .u64 A 2 c (lmb (-9223372036854775808 - 9223372036854775807))⟩, ⟨2, 13, fun x _ => x = .bool true⟩, ⟨3, 14, fun x _ => x = .bool true⟩, ⟨4, 15, fun x _ => x = .agg #[.slice U2 2 u2, .slice V2 2 v2]⟩, ⟨5, 16, fun x _ => x = .agg #[.slice U3 2 u3, .slice V3 2 v3]⟩, ⟨6, 17, fun x w => ∃ (A : Option Addr) (c : Nat), x = .slice A 4 c ∧ Sl w .u64 A 4 c (lmb ((1 - 0) * (1 - 0) - (0 - 0) * (0 - 0)))⟩, ⟨7, 18, fun x w => ∃ (A : Option Addr) (c : Nat), x = .slice A 4 c ∧ Sl w .u64 A 4 c (lmb ((1 - 0) * (1 - 0) - (0 - 0) * (0 - 0)))⟩, ⟨8, 19, fun x _ => x = .bool true⟩, ⟨9, 20, fun x _ => x = .bool true⟩, ⟨10, 21, fun x _ => x = .bool true⟩, ⟨11, 22, fun x _ => x = .agg #[.slice U2 2 u2, .slice V2 2 v2]⟩, ⟨12, 23, fun x _ => x = .agg #[.slice U3 2 u3, .slice V3 2 v3]⟩, ⟨13, 24, fun x w => ∃ (A : Option Addr) (c : Nat), x = .slice A 4 c ∧ Sl w .u64 A 4 c (lmb ((1 - 0) * (0 - 0) + (0 - 0) * (1 - 0)))⟩, ⟨14, 25, fun x w => ∃ (A : Option Addr) (c : Nat), x = .slice A 4 c ∧ Sl w .u64 A 4 c (lmb ((1 - 0) * (0 - 0) + (0 - 0) * (1 - 0)))⟩, ⟨15, 26, fun x _ => x = .bool true⟩, ⟨16, 27, fun x _ => x = .bool true⟩, ⟨17, 28, fun x _ => x = .bool true⟩, ⟨18, 29, fun x _ => x = .agg #[.slice U2 2 u2, .slice V2 2 v2]⟩, ⟨19, 30, fun x w => ∃ (U : Option Addr) (u : Nat) (V : Option Addr) (v : Nat), x = .agg #[.slice U 2 u, .slice V 2 v] ∧ Sl w .u64 U 2 u (lmb (-(1 - 0))) ∧ Sl w .u64 V 2 v (lmb (-(0 - 0)))⟩, ⟨20, 31, fun x w => ∃ (A : Option Addr) (c : Nat), x = .slice A 4 c ∧ Sl w .u64 A 4 c (lmb (-(1 - 0) * -(1 - 0) + -(0 - 0) * -(0 - 0)))⟩, ⟨21, 32, fun x w => ∃ (A : Option Addr) (c : Nat), x = .slice A 4 c ∧ Sl w .u64 A 4 c (lmb (-(1 - 0) * -(1 - 0) + -(0 - 0) * -(0 - 0)))⟩, ⟨22, 33, fun x _ => x = .bool true⟩, ⟨23, 34, fun x _ => x = .bool true⟩, ⟨24, 0, fun x _ => x = .bool true⟩] (by kernel_rfl) (by kernel_rfl) (fun _ => trivial) ?_ ?_ ?_ ?_ ?_ ?_
    · exact trivial
    · refine ⟨?_, ?_, ?_, ?_, ?_, ?_, ?_, ?_, ?_, ?_, ?_, ?_, ?_, ?_, ?_, ?_, ?_, ?_, ?_, ?_, ?_, ?_, ?_, ?_, ?_, trivial⟩
      all_goals (intro x; (dsimp only; repeat (first | exact Stay.const _ | exact Stay.sl _ _ _ _ | exact Stay.nm _ _ _ _ | exact Stay.bx _ _ _ _ | refine Stay.ex fun _ => ?_ | refine Stay.and ?_ ?_)))
    · exact trivial
    · exact trivial
    · refine ⟨?_, ?_, ?_, ?_, ?_, ?_, ?_, ?_, ?_, ?_, ?_, ?_, ?_, ?_, ?_, ?_, ?_, ?_, ?_, ?_, ?_, ?_, ?_, ?_, ?_, trivial⟩
      · intro a w K hb ht hd hK
        have hbw := Lib.hid (below_tr RB2.out hb); clear hb
        clear ht hd
        have HK := Lib.hid hK; clear hK
        refine wpOp_step (by simp only [List.getElem?_toArray, List.getElem?_cons_succ, List.getElem?_cons_zero]; rfl) (fun K' hK' => ?_)
        have HK' := Lib.hid hK'; clear hK'
        go_simp
        refine (diff_Coordinate (-9223372036854775808) 9223372036854775807 isIm isIM _).mono ?_
        rintro e w1 ⟨⟨A, c, rfl, S⟩, B⟩
        go_wp2_with fail
        exact HK'.out _ _ (HK.out _ _ B ⟨A, c, rfl, S⟩)
      · intro a w K hb ht hd hK
        have hbw := Lib.hid (below_tr RB2.out hb); clear hb
        clear ht hd
        have HK := Lib.hid hK; clear hK
        refine wpOp_step (by simp only [List.getElem?_toArray, List.getElem?_cons_succ, List.getElem?_cons_zero]; rfl) (fun K' hK' => ?_)
        have HK' := Lib.hid hK'; clear hK'
        go_simp
        exact HK'.out _ _ (HK.out _ _ (below_al below_rf) ⟨_, _, rfl, sl_two _ _ _ _ _ (by decide) (by decide)⟩)
      · intro a w K hb ht hd hK
        have hbw := Lib.hid (below_tr RB2.out hb); clear hb
        obtain ⟨x11, hx11, hp11⟩ := hd 0 _ rfl (by kernel_rfl)
        obtain ⟨A0, c0, rfl, S0⟩ := hp11
        have es11 : a.tmps.getD 11 undef = _ := getD_of hx11; clear hx11
        obtain ⟨x12, hx12, hp12⟩ := hd 1 _ rfl (by kernel_rfl)
        obtain ⟨A1, c1, rfl, S1⟩ := hp12
        have es12 : a.tmps.getD 12 undef = _ := getD_of hx12; clear hx12
        clear ht hd
        have HK := Lib.hid hK; clear hK
        refine wpOp_step (by simp only [List.getElem?_toArray, List.getElem?_cons_succ, List.getElem?_cons_zero]; rfl) (fun K' hK' => ?_)
        have HK' := Lib.hid hK'; clear hK'
        go_simp
        refine (ref3_Same _ _ _ _ _ _ _ _ S0 S1 (fun _ _ => rfl)).mono ?_
        rintro e w1 ⟨rfl, B⟩
        go_wp2_with fail
        exact HK'.out _ _ (HK.out _ _ B rfl)
      · intro a w K hb ht hd hK
        have hbw := Lib.hid (below_tr RB2.out hb); clear hb
        obtain ⟨x13, hx13, hp13⟩ := hd 2 _ rfl (by kernel_rfl)
        obtain rfl := hp13
        have es13 : a.tmps.getD 13 undef = _ := getD_of hx13; clear hx13
        clear ht hd
        have HK := Lib.hid hK; clear hK
        refine wpOp_step (by simp only [List.getElem?_toArray, List.getElem?_cons_succ, List.getElem?_cons_zero]; rfl) (fun K' hK' => ?_)
        have HK' := Lib.hid hK'; clear hK'
        go_simp
        exact HK'.out _ _ (HK.out _ _ below_rf rfl)
      · intro a w K hb ht hd hK
        have hbw := Lib.hid (below_tr RB2.out hb); clear hb
        have hx2 := (ht 2 rfl).trans rfl
        have es2 : a.tmps.getD 2 undef = _ := getD_of hx2; clear hx2
        obtain ⟨x14, hx14, hp14⟩ := hd 3 _ rfl (by kernel_rfl)
        obtain rfl := hp14
        have es14 : a.tmps.getD 14 undef = _ := getD_of hx14; have gs14 : a.tmps[14]? = some _ := hx14; clear hx14
        clear ht hd
        have c0 := (FU.out.below hbw.out (Nat.le_refl _)).cell 0 (v := .slice U2 2 u2) rfl
        have c1 := (FU.out.below hbw.out (Nat.le_refl _)).cell 1 (v := .slice V2 2 v2) rfl
        have HK := Lib.hid hK; clear hK
        refine wpOp_step (by simp only [List.getElem?_toArray, List.getElem?_cons_succ, List.getElem?_cons_zero]; rfl) (fun K' hK' => ?_)
        have HK' := Lib.hid hK'; clear hK'
        go_simp
        exact HK'.out _ _ (HK.out _ _ below_rf rfl)
      · intro a w K hb ht hd hK
        have hbw := Lib.hid (below_tr RB2.out hb); clear hb
        have hx3 := (ht 3 rfl).trans rfl
        have es3 : a.tmps.getD 3 undef = _ := getD_of hx3; clear hx3
        obtain ⟨x14, hx14, hp14⟩ := hd 3 _ rfl (by kernel_rfl)
        obtain rfl := hp14
        have es14 : a.tmps.getD 14 undef = _ := getD_of hx14; have gs14 : a.tmps[14]? = some _ := hx14; clear hx14
        clear ht hd
        have c0 := (FV.out.below hbw.out (Nat.le_refl _)).cell 0 (v := .slice U3 2 u3) rfl
        have c1 := (FV.out.below hbw.out (Nat.le_refl _)).cell 1 (v := .slice V3 2 v3) rfl
        have HK := Lib.hid hK; clear hK
        refine wpOp_step (by simp only [List.getElem?_toArray, List.getElem?_cons_succ, List.getElem?_cons_zero]; rfl) (fun K' hK' => ?_)
        have HK' := Lib.hid hK'; clear hK'
        go_simp
        exact HK'.out _ _ (HK.out _ _ below_rf rfl)
      · intro a w K hb ht hd hK
        have hbw := Lib.hid (below_tr RB2.out hb); clear hb
        obtain ⟨x15, hx15, hp15⟩ := hd 4 _ rfl (by kernel_rfl)
        obtain rfl := hp15
        have es15 : a.tmps.getD 15 undef = _ := getD_of hx15; clear hx15
        obtain ⟨x16, hx16, hp16⟩ := hd 5 _ rfl (by kernel_rfl)
        obtain rfl := hp16
        have es16 : a.tmps.getD 16 undef = _ := getD_of hx16; clear hx16
        obtain ⟨x14, hx14, hp14⟩ := hd 3 _ rfl (by kernel_rfl)
        obtain rfl := hp14
        have es14 : a.tmps.getD 14 undef = _ := getD_of hx14; have gs14 : a.tmps[14]? = some _ := hx14; clear hx14
        clear ht hd
        have HK := Lib.hid hK; clear hK
        refine wpOp_step (by simp only [List.getElem?_toArray, List.getElem?_cons_succ, List.getElem?_cons_zero]; rfl) (fun K' hK' => ?_)
        have HK' := Lib.hid hK'; clear hK'
        go_simp
        refine (diff_Cross _ _ _ _ _ _ _ _ _ _ _ _ _ (FS2.out.below hbw.out (Nat.le_refl _)) (FT2.out.below hbw.out (Nat.le_refl _)) (FS3.out.below hbw.out (Nat.le_refl _)) (FT3.out.below hbw.out (Nat.le_refl _)) (fit_sub isI1 isI0) (fit_sub isI0 isI0) (fit_sub isI0 isI0) (fit_sub isI1 isI0)).mono ?_
        rintro e w1 ⟨⟨A, c, rfl, S⟩, B⟩
        go_wp2_with fail
        exact HK'.out _ _ (HK.out _ _ B ⟨A, c, rfl, S⟩)
      · intro a w K hb ht hd hK
        have hbw := Lib.hid (below_tr RB2.out hb); clear hb
        obtain ⟨x14, hx14, hp14⟩ := hd 3 _ rfl (by kernel_rfl)
        obtain rfl := hp14
        have es14 : a.tmps.getD 14 undef = _ := getD_of hx14; have gs14 : a.tmps[14]? = some _ := hx14; clear hx14
        clear ht hd
        have HK := Lib.hid hK; clear hK
        refine wpOp_step (by simp only [List.getElem?_toArray, List.getElem?_cons_succ, List.getElem?_cons_zero]; rfl) (fun K' hK' => ?_)
        have HK' := Lib.hid hK'; clear hK'
        go_simp
        exact HK'.out _ _ (HK.out _ _ (below_al below_rf) ⟨_, _, rfl, sl_four _ _ _ _ _ _ _ (by decide) (by decide) (by decide) (by decide)⟩)
      · intro a w K hb ht hd hK
        have hbw := Lib.hid (below_tr RB2.out hb); clear hb
        obtain ⟨x17, hx17, hp17⟩ := hd 6 _ rfl (by kernel_rfl)
        obtain ⟨A6, c6, rfl, S6⟩ := hp17
        have es17 : a.tmps.getD 17 undef = _ := getD_of hx17; clear hx17
        obtain ⟨x18, hx18, hp18⟩ := hd 7 _ rfl (by kernel_rfl)
        obtain ⟨A7, c7, rfl, S7⟩ := hp18
        have es18 : a.tmps.getD 18 undef = _ := getD_of hx18; clear hx18
        obtain ⟨x14, hx14, hp14⟩ := hd 3 _ rfl (by kernel_rfl)
        obtain rfl := hp14
        have es14 : a.tmps.getD 14 undef = _ := getD_of hx14; have gs14 : a.tmps[14]? = some _ := hx14; clear hx14
        clear ht hd
        have HK := Lib.hid hK; clear hK
        refine wpOp_step (by simp only [List.getElem?_toArray, List.getElem?_cons_succ, List.getElem?_cons_zero]; rfl) (fun K' hK' => ?_)
        have HK' := Lib.hid hK'; clear hK'
        go_simp
        refine (ref3_Same _ _ _ _ _ _ _ _ S6 S7 (fun _ _ => rfl)).mono ?_
        rintro e w1 ⟨rfl, B⟩
        go_wp2_with fail
        exact HK'.out _ _ (HK.out _ _ B rfl)
      · intro a w K hb ht hd hK
        have hbw := Lib.hid (below_tr RB2.out hb); clear hb
        obtain ⟨x14, hx14, hp14⟩ := hd 3 _ rfl (by kernel_rfl)
        obtain rfl := hp14
        have es14 : a.tmps.getD 14 undef = _ := getD_of hx14; clear hx14
        obtain ⟨x19, hx19, hp19⟩ := hd 8 _ rfl (by kernel_rfl)
        obtain rfl := hp19
        have es19 : a.tmps.getD 19 undef = _ := getD_of hx19; clear hx19
        clear ht hd
        have HK := Lib.hid hK; clear hK
        refine wpOp_step (by simp only [List.getElem?_toArray, List.getElem?_cons_succ, List.getElem?_cons_zero]; rfl) (fun K' hK' => ?_)
        have HK' := Lib.hid hK'; clear hK'
        go_simp
        exact HK'.out _ _ (HK.out _ _ below_rf rfl)
      · intro a w K hb ht hd hK
        have hbw := Lib.hid (below_tr RB2.out hb); clear hb
        obtain ⟨x20, hx20, hp20⟩ := hd 9 _ rfl (by kernel_rfl)
        obtain rfl := hp20
        have es20 : a.tmps.getD 20 undef = _ := getD_of hx20; clear hx20
        clear ht hd
        have HK := Lib.hid hK; clear hK
        refine wpOp_step (by simp only [List.getElem?_toArray, List.getElem?_cons_succ, List.getElem?_cons_zero]; rfl) (fun K' hK' => ?_)
        have HK' := Lib.hid hK'; clear hK'
        go_simp
        exact HK'.out _ _ (HK.out _ _ below_rf rfl)
      · intro a w K hb ht hd hK
        have hbw := Lib.hid (below_tr RB2.out hb); clear hb
        have hx2 := (ht 2 rfl).trans rfl
        have es2 : a.tmps.getD 2 undef = _ := getD_of hx2; clear hx2
        obtain ⟨x21, hx21, hp21⟩ := hd 10 _ rfl (by kernel_rfl)
        obtain rfl := hp21
        have es21 : a.tmps.getD 21 undef = _ := getD_of hx21; have gs21 : a.tmps[21]? = some _ := hx21; clear hx21
        clear ht hd
        have c0 := (FU.out.below hbw.out (Nat.le_refl _)).cell 0 (v := .slice U2 2 u2) rfl
        have c1 := (FU.out.below hbw.out (Nat.le_refl _)).cell 1 (v := .slice V2 2 v2) rfl
        have HK := Lib.hid hK; clear hK
        refine wpOp_step (by simp only [List.getElem?_toArray, List.getElem?_cons_succ, List.getElem?_cons_zero]; rfl) (fun K' hK' => ?_)
        have HK' := Lib.hid hK'; clear hK'
        go_simp
        exact HK'.out _ _ (HK.out _ _ below_rf rfl)
      · intro a w K hb ht hd hK
        have hbw := Lib.hid (below_tr RB2.out hb); clear hb
        have hx3 := (ht 3 rfl).trans rfl
        have es3 : a.tmps.getD 3 undef = _ := getD_of hx3; clear hx3
        obtain ⟨x21, hx21, hp21⟩ := hd 10 _ rfl (by kernel_rfl)
        obtain rfl := hp21
        have es21 : a.tmps.getD 21 undef = _ := getD_of hx21; have gs21 : a.tmps[21]? = some _ := hx21; clear hx21
        clear ht hd
        have c0 := (FV.out.below hbw.out (Nat.le_refl _)).cell 0 (v := .slice U3 2 u3) rfl
        have c1 := (FV.out.below hbw.out (Nat.le_refl _)).cell 1 (v := .slice V3 2 v3) rfl
        have HK := Lib.hid hK; clear hK
        refine wpOp_step (by simp only [List.getElem?_toArray, List.getElem?_cons_succ, List.getElem?_cons_zero]; rfl) (fun K' hK' => ?_)
        have HK' := Lib.hid hK'; clear hK'
        go_simp
        exact HK'.out _ _ (HK.out _ _ below_rf rfl)
      · intro a w K hb ht hd hK
        have hbw := Lib.hid (below_tr RB2.out hb); clear hb
        obtain ⟨x22, hx22, hp22⟩ := hd 11 _ rfl (by kernel_rfl)
        obtain rfl := hp22
        have es22 : a.tmps.getD 22 undef = _ := getD_of hx22; clear hx22
        obtain ⟨x23, hx23, hp23⟩ := hd 12 _ rfl (by kernel_rfl)
        obtain rfl := hp23
        have es23 : a.tmps.getD 23 undef = _ := getD_of hx23; clear hx23
        obtain ⟨x21, hx21, hp21⟩ := hd 10 _ rfl (by kernel_rfl)
        obtain rfl := hp21
        have es21 : a.tmps.getD 21 undef = _ := getD_of hx21; have gs21 : a.tmps[21]? = some _ := hx21; clear hx21
        clear ht hd
        have HK := Lib.hid hK; clear hK
        refine wpOp_step (by simp only [List.getElem?_toArray, List.getElem?_cons_succ, List.getElem?_cons_zero]; rfl) (fun K' hK' => ?_)
        have HK' := Lib.hid hK'; clear hK'
        go_simp
        refine (diff_Dot _ _ _ _ _ _ _ _ _ _ _ _ _ (FS2.out.below hbw.out (Nat.le_refl _)) (FT2.out.below hbw.out (Nat.le_refl _)) (FS3.out.below hbw.out (Nat.le_refl _)) (FT3.out.below hbw.out (Nat.le_refl _)) (fit_sub isI1 isI0) (fit_sub isI0 isI0) (fit_sub isI0 isI0) (fit_sub isI1 isI0)).mono ?_
        rintro e w1 ⟨⟨A, c, rfl, S⟩, B⟩
        go_wp2_with fail
        exact HK'.out _ _ (HK.out _ _ B ⟨A, c, rfl, S⟩)
      · intro a w K hb ht hd hK
        have hbw := Lib.hid (below_tr RB2.out hb); clear hb
        obtain ⟨x21, hx21, hp21⟩ := hd 10 _ rfl (by kernel_rfl)
        obtain rfl := hp21
        have es21 : a.tmps.getD 21 undef = _ := getD_of hx21; have gs21 : a.tmps[21]? = some _ := hx21; clear hx21
        clear ht hd
        have HK := Lib.hid hK; clear hK
        refine wpOp_step (by simp only [List.getElem?_toArray, List.getElem?_cons_succ, List.getElem?_cons_zero]; rfl) (fun K' hK' => ?_)
        have HK' := Lib.hid hK'; clear hK'
        go_simp
        exact HK'.out _ _ (HK.out _ _ (below_al below_rf) ⟨_, _, rfl, sl_eq4 (w2 := w.alloc (.cells #[.int .u64 0, .int .u64 0, .int .u64 0, .int .u64 0] 54)) (by kernel_rfl) (by kernel_rfl) (sl_four _ _ _ _ _ _ _ (by decide) (by decide) (by decide) (by decide))⟩)
      · intro a w K hb ht hd hK
        have hbw := Lib.hid (below_tr RB2.out hb); clear hb
        obtain ⟨x24, hx24, hp24⟩ := hd 13 _ rfl (by kernel_rfl)
        obtain ⟨A13, c13, rfl, S13⟩ := hp24
        have es24 : a.tmps.getD 24 undef = _ := getD_of hx24; clear hx24
        obtain ⟨x25, hx25, hp25⟩ := hd 14 _ rfl (by kernel_rfl)
        obtain ⟨A14, c14, rfl, S14⟩ := hp25
        have es25 : a.tmps.getD 25 undef = _ := getD_of hx25; clear hx25
        obtain ⟨x21, hx21, hp21⟩ := hd 10 _ rfl (by kernel_rfl)
        obtain rfl := hp21
        have es21 : a.tmps.getD 21 undef = _ := getD_of hx21; have gs21 : a.tmps[21]? = some _ := hx21; clear hx21
        clear ht hd
        have HK := Lib.hid hK; clear hK
        refine wpOp_step (by simp only [List.getElem?_toArray, List.getElem?_cons_succ, List.getElem?_cons_zero]; rfl) (fun K' hK' => ?_)
        have HK' := Lib.hid hK'; clear hK'
        go_simp
        refine (ref3_Same _ _ _ _ _ _ _ _ S13 S14 (fun _ _ => rfl)).mono ?_
        rintro e w1 ⟨rfl, B⟩
        go_wp2_with fail
        exact HK'.out _ _ (HK.out _ _ B rfl)
      · intro a w K hb ht hd hK
        have hbw := Lib.hid (below_tr RB2.out hb); clear hb
        obtain ⟨x21, hx21, hp21⟩ := hd 10 _ rfl (by kernel_rfl)
        obtain rfl := hp21
        have es21 : a.tmps.getD 21 undef = _ := getD_of hx21; clear hx21
        obtain ⟨x26, hx26, hp26⟩ := hd 15 _ rfl (by kernel_rfl)
        obtain rfl := hp26
        have es26 : a.tmps.getD 26 undef = _ := getD_of hx26; clear hx26
        clear ht hd
        have HK := Lib.hid hK; clear hK
        refine wpOp_step (by simp only [List.getElem?_toArray, List.getElem?_cons_succ, List.getElem?_cons_zero]; rfl) (fun K' hK' => ?_)
        have HK' := Lib.hid hK'; clear hK'
        go_simp
        exact HK'.out _ _ (HK.out _ _ below_rf rfl)
      · intro a w K hb ht hd hK
        have hbw := Lib.hid (below_tr RB2.out hb); clear hb
        obtain ⟨x27, hx27, hp27⟩ := hd 16 _ rfl (by kernel_rfl)
        obtain rfl := hp27
        have es27 : a.tmps.getD 27 undef = _ := getD_of hx27; clear hx27
        clear ht hd
        have HK := Lib.hid hK; clear hK
        refine wpOp_step (by simp only [List.getElem?_toArray, List.getElem?_cons_succ, List.getElem?_cons_zero]; rfl) (fun K' hK' => ?_)
        have HK' := Lib.hid hK'; clear hK'
        go_simp
        exact HK'.out _ _ (HK.out _ _ below_rf rfl)
      · intro a w K hb ht hd hK
        have hbw := Lib.hid (below_tr RB2.out hb); clear hb
        have hx2 := (ht 2 rfl).trans rfl
        have es2 : a.tmps.getD 2 undef = _ := getD_of hx2; clear hx2
        obtain ⟨x28, hx28, hp28⟩ := hd 17 _ rfl (by kernel_rfl)
        obtain rfl := hp28
        have es28 : a.tmps.getD 28 undef = _ := getD_of hx28; have gs28 : a.tmps[28]? = some _ := hx28; clear hx28
        clear ht hd
        have c0 := (FU.out.below hbw.out (Nat.le_refl _)).cell 0 (v := .slice U2 2 u2) rfl
        have c1 := (FU.out.below hbw.out (Nat.le_refl _)).cell 1 (v := .slice V2 2 v2) rfl
        have HK := Lib.hid hK; clear hK
        refine wpOp_step (by simp only [List.getElem?_toArray, List.getElem?_cons_succ, List.getElem?_cons_zero]; rfl) (fun K' hK' => ?_)
        have HK' := Lib.hid hK'; clear hK'
        go_simp
        exact HK'.out _ _ (HK.out _ _ below_rf rfl)
      · intro a w K hb ht hd hK
        have hbw := Lib.hid (below_tr RB2.out hb); clear hb
        obtain ⟨x29, hx29, hp29⟩ := hd 18 _ rfl (by kernel_rfl)
        obtain rfl := hp29
        have es29 : a.tmps.getD 29 undef = _ := getD_of hx29; clear hx29
        obtain ⟨x28, hx28, hp28⟩ := hd 17 _ rfl (by kernel_rfl)
        obtain rfl := hp28
        have es28 : a.tmps.getD 28 undef = _ := getD_of hx28; have gs28 : a.tmps[28]? = some _ := hx28; clear hx28
        clear ht hd
        have HK := Lib.hid hK; clear hK
        refine wpOp_step (by simp only [List.getElem?_toArray, List.getElem?_cons_succ, List.getElem?_cons_zero]; rfl) (fun K' hK' => ?_)
        have HK' := Lib.hid hK'; clear hK'
        go_simp
        refine (diff_Neg _ _ _ _ _ _ _ (FS2.out.below hbw.out (Nat.le_refl _)) (FT2.out.below hbw.out (Nat.le_refl _))).mono ?_
        rintro e w1 ⟨⟨U, u, V, v, rfl, S, T⟩, B⟩
        go_wp2_with fail
        exact HK'.out _ _ (HK.out _ _ B ⟨U, u, V, v, rfl, S, T⟩)
      · intro a w K hb ht hd hK
        have hbw := Lib.hid (below_tr RB2.out hb); clear hb
        obtain ⟨x30, hx30, hp30⟩ := hd 19 _ rfl (by kernel_rfl)
        obtain ⟨U19, u19, V19, v19, rfl, S19, T19⟩ := hp30
        have es30 : a.tmps.getD 30 undef = _ := getD_of hx30; clear hx30
        obtain ⟨x28, hx28, hp28⟩ := hd 17 _ rfl (by kernel_rfl)
        obtain rfl := hp28
        have es28 : a.tmps.getD 28 undef = _ := getD_of hx28; have gs28 : a.tmps[28]? = some _ := hx28; clear hx28
        clear ht hd
        have HK := Lib.hid hK; clear hK
        refine wpOp_step (by simp only [List.getElem?_toArray, List.getElem?_cons_succ, List.getElem?_cons_zero]; rfl) (fun K' hK' => ?_)
        have HK' := Lib.hid hK'; clear hK'
        go_simp
        refine (diff_Norm _ _ _ _ _ _ _ S19 T19 fitN1 fitN0).mono ?_
        rintro e w1 ⟨⟨A, c, rfl, S⟩, B⟩
        go_wp2_with fail
        exact HK'.out _ _ (HK.out _ _ B ⟨A, c, rfl, S⟩)
      · intro a w K hb ht hd hK
        have hbw := Lib.hid (below_tr RB2.out hb); clear hb
        obtain ⟨x28, hx28, hp28⟩ := hd 17 _ rfl (by kernel_rfl)
        obtain rfl := hp28
        have es28 : a.tmps.getD 28 undef = _ := getD_of hx28; have gs28 : a.tmps[28]? = some _ := hx28; clear hx28
        clear ht hd
        have HK := Lib.hid hK; clear hK
        refine wpOp_step (by simp only [List.getElem?_toArray, List.getElem?_cons_succ, List.getElem?_cons_zero]; rfl) (fun K' hK' => ?_)
        have HK' := Lib.hid hK'; clear hK'
        go_simp
        exact HK'.out _ _ (HK.out _ _ (below_al below_rf) ⟨_, _, rfl, sl_four _ _ _ _ _ _ _ (by decide) (by decide) (by decide) (by decide)⟩)
      · intro a w K hb ht hd hK
        have hbw := Lib.hid (below_tr RB2.out hb); clear hb
        obtain ⟨x31, hx31, hp31⟩ := hd 20 _ rfl (by kernel_rfl)
        obtain ⟨A20, c20, rfl, S20⟩ := hp31
        have es31 : a.tmps.getD 31 undef = _ := getD_of hx31; clear hx31
        obtain ⟨x32, hx32, hp32⟩ := hd 21 _ rfl (by kernel_rfl)
        obtain ⟨A21, c21, rfl, S21⟩ := hp32
        have es32 : a.tmps.getD 32 undef = _ := getD_of hx32; clear hx32
        obtain ⟨x28, hx28, hp28⟩ := hd 17 _ rfl (by kernel_rfl)
        obtain rfl := hp28
        have es28 : a.tmps.getD 28 undef = _ := getD_of hx28; have gs28 : a.tmps[28]? = some _ := hx28; clear hx28
        clear ht hd
        have HK := Lib.hid hK; clear hK
        refine wpOp_step (by simp only [List.getElem?_toArray, List.getElem?_cons_succ, List.getElem?_cons_zero]; rfl) (fun K' hK' => ?_)
        have HK' := Lib.hid hK'; clear hK'
        go_simp
        refine (ref3_Same _ _ _ _ _ _ _ _ S20 S21 (fun _ _ => rfl)).mono ?_
        rintro e w1 ⟨rfl, B⟩
        go_wp2_with fail
        exact HK'.out _ _ (HK.out _ _ B rfl)
      · intro a w K hb ht hd hK
        have hbw := Lib.hid (below_tr RB2.out hb); clear hb
        obtain ⟨x28, hx28, hp28⟩ := hd 17 _ rfl (by kernel_rfl)
        obtain rfl := hp28
        have es28 : a.tmps.getD 28 undef = _ := getD_of hx28; clear hx28
        obtain ⟨x33, hx33, hp33⟩ := hd 22 _ rfl (by kernel_rfl)
        obtain rfl := hp33
        have es33 : a.tmps.getD 33 undef = _ := getD_of hx33; clear hx33
        clear ht hd
        have HK := Lib.hid hK; clear hK
        refine wpOp_step (by simp only [List.getElem?_toArray, List.getElem?_cons_succ, List.getElem?_cons_zero]; rfl) (fun K' hK' => ?_)
        have HK' := Lib.hid hK'; clear hK'
        go_simp
        exact HK'.out _ _ (HK.out _ _ below_rf rfl)
      · intro a w K hb ht hd hK
        have hbw := Lib.hid (below_tr RB2.out hb); clear hb
        obtain ⟨x34, hx34, hp34⟩ := hd 23 _ rfl (by kernel_rfl)
        obtain rfl := hp34
        have es34 : a.tmps.getD 34 undef = _ := getD_of hx34; clear hx34
        clear ht hd
        have HK := Lib.hid hK; clear hK
        refine wpOp_step (by simp only [List.getElem?_toArray, List.getElem?_cons_succ, List.getElem?_cons_zero]; rfl) (fun K' hK' => ?_)
        have HK' := Lib.hid hK'; clear hK'
        go_simp
        exact HK'.out _ _ (HK.out _ _ below_rf rfl)
    · intro w3 X B hb hv hx hd
      simp only [List.foldl_cons, List.foldl_nil, Act.put, List.setIfInBounds_toArray, List.set_cons_zero, List.set_cons_succ, ptrTo]
      obtain ⟨hv0, hv1, hv2, hv3, hv4, hv5, hv6, hv7, hv8, hv9, hv10, hv11, hv12, hv13, hv14, hv15, hv16, hv17, hv18, hv19, hv20, hv21, hv22, hv23, hv24, -⟩ := hv
      clear hd
      have hV0 : (fun x w => ∃ (A : Option Addr) (c : Nat), x = .slice A 2 c ∧ Sl w .u64 A 2 c (lmb (-9223372036854775808 - 9223372036854775807))) (X 11) w3 := hv0; clear hv0; have hv0 := hV0; clear hV0; generalize X 11 = X11 at *
      have hV1 : (fun x w => ∃ (A : Option Addr) (c : Nat), x = .slice A 2 c ∧ Sl w .u64 A 2 c (lmb (-9223372036854775808 - 9223372036854775807))) (X 12) w3 := hv1; clear hv1; have hv1 := hV1; clear hV1; generalize X 12 = X12 at *
      have hV2 : (fun x _ => x = .bool true) (X 13) w3 := hv2; clear hv2; have hv2 := hV2; clear hV2; generalize X 13 = X13 at *
      have hV3 : (fun x _ => x = .bool true) (X 14) w3 := hv3; clear hv3; have hv3 := hV3; clear hV3; generalize X 14 = X14 at *
      have hV4 : (fun x _ => x = .agg #[.slice U2 2 u2, .slice V2 2 v2]) (X 15) w3 := hv4; clear hv4; have hv4 := hV4; clear hV4; generalize X 15 = X15 at *
      have hV5 : (fun x _ => x = .agg #[.slice U3 2 u3, .slice V3 2 v3]) (X 16) w3 := hv5; clear hv5; have hv5 := hV5; clear hV5; generalize X 16 = X16 at *
      have hV6 : (fun x w => ∃ (A : Option Addr) (c : Nat), x = .slice A 4 c ∧ Sl w .u64 A 4 c (lmb ((1 - 0) * (1 - 0) - (0 - 0) * (0 - 0)))) (X 17) w3 := hv6; clear hv6; have hv6 := hV6; clear hV6; generalize X 17 = X17 at *
      have hV7 : (fun x w => ∃ (A : Option Addr) (c : Nat), x = .slice A 4 c ∧ Sl w .u64 A 4 c (lmb ((1 - 0) * (1 - 0) - (0 - 0) * (0 - 0)))) (X 18) w3 := hv7; clear hv7; have hv7 := hV7; clear hV7; generalize X 18 = X18 at *
      have hV8 : (fun x _ => x = .bool true) (X 19) w3 := hv8; clear hv8; have hv8 := hV8; clear hV8; generalize X 19 = X19 at *
      have hV9 : (fun x _ => x = .bool true) (X 20) w3 := hv9; clear hv9; have hv9 := hV9; clear hV9; generalize X 20 = X20 at *
      have hV10 : (fun x _ => x = .bool true) (X 21) w3 := hv10; clear hv10; have hv10 := hV10; clear hV10; generalize X 21 = X21 at *
      have hV11 : (fun x _ => x = .agg #[.slice U2 2 u2, .slice V2 2 v2]) (X 22) w3 := hv11; clear hv11; have hv11 := hV11; clear hV11; generalize X 22 = X22 at *
      have hV12 : (fun x _ => x = .agg #[.slice U3 2 u3, .slice V3 2 v3]) (X 23) w3 := hv12; clear hv12; have hv12 := hV12; clear hV12; generalize X 23 = X23 at *
      have hV13 : (fun x w => ∃ (A : Option Addr) (c : Nat), x = .slice A 4 c ∧ Sl w .u64 A 4 c (lmb ((1 - 0) * (0 - 0) + (0 - 0) * (1 - 0)))) (X 24) w3 := hv13; clear hv13; have hv13 := hV13; clear hV13; generalize X 24 = X24 at *
      have hV14 : (fun x w => ∃ (A : Option Addr) (c : Nat), x = .slice A 4 c ∧ Sl w .u64 A 4 c (lmb ((1 - 0) * (0 - 0) + (0 - 0) * (1 - 0)))) (X 25) w3 := hv14; clear hv14; have hv14 := hV14; clear hV14; generalize X 25 = X25 at *
      have hV15 : (fun x _ => x = .bool true) (X 26) w3 := hv15; clear hv15; have hv15 := hV15; clear hV15; generalize X 26 = X26 at *
      have hV16 : (fun x _ => x = .bool true) (X 27) w3 := hv16; clear hv16; have hv16 := hV16; clear hV16; generalize X 27 = X27 at *
      have hV17 : (fun x _ => x = .bool true) (X 28) w3 := hv17; clear hv17; have hv17 := hV17; clear hV17; generalize X 28 = X28 at *
      have hV18 : (fun x _ => x = .agg #[.slice U2 2 u2, .slice V2 2 v2]) (X 29) w3 := hv18; clear hv18; have hv18 := hV18; clear hV18; generalize X 29 = X29 at *
      have hV19 : (fun x w => ∃ (U : Option Addr) (u : Nat) (V : Option Addr) (v : Nat), x = .agg #[.slice U 2 u, .slice V 2 v] ∧ Sl w .u64 U 2 u (lmb (-(1 - 0))) ∧ Sl w .u64 V 2 v (lmb (-(0 - 0)))) (X 30) w3 := hv19; clear hv19; have hv19 := hV19; clear hV19; generalize X 30 = X30 at *
      have hV20 : (fun x w => ∃ (A : Option Addr) (c : Nat), x = .slice A 4 c ∧ Sl w .u64 A 4 c (lmb (-(1 - 0) * -(1 - 0) + -(0 - 0) * -(0 - 0)))) (X 31) w3 := hv20; clear hv20; have hv20 := hV20; clear hV20; generalize X 31 = X31 at *
      have hV21 : (fun x w => ∃ (A : Option Addr) (c : Nat), x = .slice A 4 c ∧ Sl w .u64 A 4 c (lmb (-(1 - 0) * -(1 - 0) + -(0 - 0) * -(0 - 0)))) (X 32) w3 := hv21; clear hv21; have hv21 := hV21; clear hV21; generalize X 32 = X32 at *
      have hV22 : (fun x _ => x = .bool true) (X 33) w3 := hv22; clear hv22; have hv22 := hV22; clear hV22; generalize X 33 = X33 at *
      have hV23 : (fun x _ => x = .bool true) (X 34) w3 := hv23; clear hv23; have hv23 := hV23; clear hV23; generalize X 34 = X34 at *
      have hV24 : (fun x _ => x = .bool true) (X 0) w3 := hv24; clear hv24; have hv24 := hV24; clear hV24; generalize X 0 = X0 at *
      clear hv0
      clear hv1
      obtain rfl := hv2
      obtain rfl := hv3
      obtain rfl := hv4
      obtain rfl := hv5
      clear hv6
      clear hv7
      obtain rfl := hv8
      obtain rfl := hv9
      obtain rfl := hv10
      obtain rfl := hv11
      obtain rfl := hv12
      clear hv13
      clear hv14
      obtain rfl := hv15
      obtain rfl := hv16
      obtain rfl := hv17
      obtain rfl := hv18
      clear hv19
      clear hv20
      clear hv21
      obtain rfl := hv22
      obtain rfl := hv23
      obtain rfl := hv24
      have RC := Lib.hid (below_tr RB2.out hb); clear hb
      have FO_3 := Lib.hid (FO_2.out.below RC.out (Nat.le_refl _))
      have FU_3 := Lib.hid (FU.out.below RC.out (Nat.le_refl _))
      have FS2_3 := Lib.hid (FS2.out.below RC.out (Nat.le_refl _))
      have FT2_3 := Lib.hid (FT2.out.below RC.out (Nat.le_refl _))
      have FV_3 := Lib.hid (FV.out.below RC.out (Nat.le_refl _))
      have FS3_3 := Lib.hid (FS3.out.below RC.out (Nat.le_refl _))
      have FT3_3 := Lib.hid (FT3.out.below RC.out (Nat.le_refl _))
      have HB3 := Lib.hid (HB2.out.trans (RC.out.mono HB2.out.size))
      clear HB2 FO_2 FU FS2 FT2 FV FS3 FT3 RC RB2
      go_wp2_with fail
      go_ret
      exact ⟨rfl, HB3.out⟩

end Go.Proofs.Ytfjanlfbnliokaa
