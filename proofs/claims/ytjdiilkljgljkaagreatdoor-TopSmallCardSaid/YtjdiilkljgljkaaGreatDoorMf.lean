/- Contracts of serve's Traced and Serve at operations 1 and 2. A request without bytes: the header's parsing, the codec's decoding, the service. The service at requests without regions, and at no request. bytes.Equal at equal bytes; the request's bytes; small requests are answered. Contracts of the reference's conversions (geofenceref03.Is, Same, power, Int). The contract of the reference's product (geofenceref03.Mul). Contracts of the reference of layer 6: products, minors, the determinant, its sign. A region that draws its order within the body of a range over a function (and anywhere inside the wide fence): values in whatever order, then the operations that wait for all of them. -/
import Derived.Test.YtjdiilkljgljkaaGreatDoorMe
import Derived.Defers
import Derived.Recover
import Derived.Deep.DeepCutAuto
import Derived.ScopeJumps
import Derived.Test.YtjdiilkljgljkaaGreatDoorMc
import Derived.Shelf.Bytes.SlEqualAll
import Derived.Test.YtjdiilkljgljkaaGreatDoorMd
import Derived.Test.YtjdiilkljgljkaaGreatDoorMb
import Derived.Test.YtjdiilkljgljkaaGreatDoorMa
import Derived.OrdersIn
import Derived.ControlIn
import Derived.TacticsIn
import Derived.RangeFuncCalls
import Derived.Scope
namespace Go.Proofs.YtjdiilkljgljkaaGreatDoor
set_option linter.unusedVariables false
set_option linter.unusedSimpArgs false
open Go.RowKit Wd

set_option maxHeartbeats 4000000 in
set_option maxRecDepth 100000 in
theorem traced_idle (pe po : Nat) (w : World) (hc : w.cell? ⟨pe, 0, none⟩ = some (.int .i64 0)) (u : FrameMode) :
    CallsD Tryz.prog 53 #[.pointer (some ⟨pe, 0, none⟩), .pointer (some ⟨po, 0, none⟩)] u w fun e u' w' => u' = u ∧ (e = .returned (.tuple #[]) ∧ w' = w) := by
  go_enter_d Tryz.func53, Tryz.ntmps53
  go_wp2_with fail
  go_end0
  exact ⟨rfl, rfl⟩
set_option maxHeartbeats 4000000 in
set_option maxRecDepth 100000 in
theorem serve_Traced1 (A : Option Addr) (c : Nat) (f g : Nat → Int) (w : World) (hT : TabM w) (hF : TabF w) (hi : ∀ i, i < 3 → IsI (f i) ∧ IsI (g i)) (hb : By w A c (1 :: ptsB f g 3)) :
    Calls Tryz.prog 30 #[.pointer none, .slice A 49 c] w fun e w' => (∃ A' c', e = .returned (.slice A' 2 c') ∧ By w' A' c' [0, sg (det (f 0) (g 0) (f 1) (g 1) (f 2) (g 2)) + 1]) ∧ Below w.heap.size w w' := by
  have HB0 := Lib.hid (Below.refl w.heap.size w); have FT := Lib.hid hT; have FF := Lib.hid hF; have FB := Lib.hid hb; have HI := Lib.hid hi; have HT0 := FT; clear hT hF hb hi
  have hmf : ∀ (fn : Fn) (first cap : Array Value) (w : World), (Instr.makeFunc fn first cap).run Tryz.prog w = .ok (.func fn first cap) w := fun _ _ _ _ => rfl
  go_enter_defers Tryz.func30, Tryz.ntmps30
  go_wp2_with fail
  have B : Below w.heap.size w ((w.alloc (.cells #[.slice none 0 0] 24)).alloc (.cells #[.int .i64 0] 67)) := ((HB0.out.alloc HB0.out.size _).alloc (HB0.out.alloc HB0.out.size _).size _)
  have C : Below w.heap.size w ((w.alloc (.cells #[.slice none 0 0] 24)).alloc (.cells #[.int .i64 0] 67)) := (((Below.refl w.heap.size w).alloc (Nat.le_refl _) _).alloc (by simp; try omega) _)
  have X0 : Bx ((w.alloc (.cells #[.slice none 0 0] 24)).alloc (.cells #[.int .i64 0] 67)) (w.heap.size) #[.slice none 0 0] 24 := by simpa using ((Bx.new w #[.slice none 0 0] 24).alloc _)
  have X1 : Bx ((w.alloc (.cells #[.slice none 0 0] 24)).alloc (.cells #[.int .i64 0] 67)) (w.heap.size + 1) #[.int .i64 0] 67 := by simpa using (Bx.new (w.alloc (.cells #[.slice none 0 0] 24)) #[.int .i64 0] 67)
  have FT_1 := Lib.hid (FT.out.below C (Nat.le_refl _))
  have FF_1 := Lib.hid (FF.out.below C (Nat.le_refl _))
  have FB_1 := Lib.hid (FB.out.below C (Nat.le_refl _))
  have HB1 := Lib.hid B
  have FO_1 := Lib.hid X0
  have FE_1 := Lib.hid X1
  clear B C X0 X1 HB0 FT FF FB
  generalize ((w.alloc (.cells #[.slice none 0 0] 24)).alloc (.cells #[.int .i64 0] 67)) = w1 at *
  skip
  refine (codec_Decode12 1 (by decide) A c f g HI.out _ FF_1.out FB_1.out).mono ?_
  rintro e w2 ⟨⟨pb, qb, rfl, hP⟩, B⟩
  have HB2 := Lib.hid (HB1.out.trans (B.mono HB1.out.size))
  have FT_2 := Lib.hid (FT_1.out.below B (Nat.le_refl _))
  have FF_2 := Lib.hid (FF_1.out.below B (Nat.le_refl _))
  have FB_2 := Lib.hid (FB_1.out.below B (Nat.le_refl _))
  have FO_2 := Lib.hid (FO_1.out.below B (Nat.le_refl _))
  have FE_2 := Lib.hid (FE_1.out.below B (Nat.le_refl _))
  have FP_2 := Lib.hid hP
  clear B hP HB1 FT_1 FF_1 FB_1 FO_1 FE_1
  have e0 := FE_2.out.cell 0 (v := .int .i64 0) rfl; have ez := FE_2.out.free 0
  have d0 := (FE_2.out.alloc (.cells #[.int .i64 1, .int .i64 0, .slice none 0 0, .int .i64 0, .slice none 0 0, .slice (some ⟨pb, 0, none⟩) 3 3, .slice (some ⟨qb, 0, none⟩) 0 0] 99)).cell 0 (v := .int .i64 0) rfl; have dz := (FE_2.out.alloc (.cells #[.int .i64 1, .int .i64 0, .slice none 0 0, .int .i64 0, .slice none 0 0, .slice (some ⟨pb, 0, none⟩) 3 3, .slice (some ⟨qb, 0, none⟩) 0 0] 99)).free 0
  go_upto_region 4 with (fail)
  clear e0 ez d0 dz
  have HPE := Lib.hid (show pb ≠ w.heap.size + 1 from fun e => by
    have h1 := FP_2.out.y0 (by decide)
    have h2 := FE_2.out
    rw [← e] at h2
    unfold Bx at h2
    simp [World.cell?, h2] at h1)
  have HR3 := Lib.hid (show Bx ((w2.alloc (.cells #[.int .i64 1, .int .i64 0, .slice none 0 0, .int .i64 0, .slice none 0 0, .slice (some ⟨pb, 0, none⟩) 3 3, .slice (some ⟨qb, 0, none⟩) 0 0] 99)).setCell ⟨w.heap.size + 1, 0, none⟩ (.int .i64 0)) w2.heap.size #[.int .i64 1, .int .i64 0, .slice none 0 0, .int .i64 0, .slice none 0 0, .slice (some ⟨pb, 0, none⟩) 3 3, .slice (some ⟨qb, 0, none⟩) 0 0] 99 from (Bx.new _ _ _).other _ (by have := FE_2.out.lt; show w2.heap.size ≠ w.heap.size + 1; omega))
  have HE3 := Lib.hid (show Bx ((w2.alloc (.cells #[.int .i64 1, .int .i64 0, .slice none 0 0, .int .i64 0, .slice none 0 0, .slice (some ⟨pb, 0, none⟩) 3 3, .slice (some ⟨qb, 0, none⟩) 0 0] 99)).setCell ⟨w.heap.size + 1, 0, none⟩ (.int .i64 0)) (w.heap.size + 1) #[.int .i64 0] 67 from (FE_2.out.alloc _).set 0 _)
  have HO3 := Lib.hid (show Bx ((w2.alloc (.cells #[.int .i64 1, .int .i64 0, .slice none 0 0, .int .i64 0, .slice none 0 0, .slice (some ⟨pb, 0, none⟩) 3 3, .slice (some ⟨qb, 0, none⟩) 0 0] 99)).setCell ⟨w.heap.size + 1, 0, none⟩ (.int .i64 0)) w.heap.size #[.slice none 0 0] 24 from (FO_2.out.alloc _).other _ (by show w.heap.size ≠ w.heap.size + 1; omega))
  have HP3 := Lib.hid (show Pts ((w2.alloc (.cells #[.int .i64 1, .int .i64 0, .slice none 0 0, .int .i64 0, .slice none 0 0, .slice (some ⟨pb, 0, none⟩) 3 3, .slice (some ⟨qb, 0, none⟩) 0 0] 99)).setCell ⟨w.heap.size + 1, 0, none⟩ (.int .i64 0)) (some ⟨pb, 0, none⟩) 3 3 f g from (FP_2.out.alloc _).setFar HPE.out)
  have HB3 := Lib.hid (show Below w.heap.size w ((w2.alloc (.cells #[.int .i64 1, .int .i64 0, .slice none 0 0, .int .i64 0, .slice none 0 0, .slice (some ⟨pb, 0, none⟩) 3 3, .slice (some ⟨qb, 0, none⟩) 0 0] 99)).setCell ⟨w.heap.size + 1, 0, none⟩ (.int .i64 0)) from (HB2.out.alloc HB2.out.size _).setCell (p := ⟨w.heap.size + 1, 0, none⟩) (by show w.heap.size ≤ w.heap.size + 1; omega) _)
  have HT3 := Lib.hid (HT0.out.below HB3.out (Nat.le_refl _))
  generalize ((w2.alloc (.cells #[.int .i64 1, .int .i64 0, .slice none 0 0, .int .i64 0, .slice none 0 0, .slice (some ⟨pb, 0, none⟩) 3 3, .slice (some ⟨qb, 0, none⟩) 0 0] 99)).setCell ⟨w.heap.size + 1, 0, none⟩ (.int .i64 0)) = w3 at *
  generalize w2.heap.size = rb at *
  clear FE_2 FO_2 FP_2 HB2 FT_2 HPE
  have vE0 := HE3.out.cell 0 (v := .int .i64 0) rfl
  have vR0 := HR3.out.cell 0 (v := .int .i64 1) rfl
  have vR1 := HR3.out.cell 1 (v := .int .i64 0) rfl
  have vR2 := HR3.out.cell 2 (v := .slice none 0 0) rfl
  have vR3 := HR3.out.cell 3 (v := .int .i64 0) rfl
  have vR4 := HR3.out.cell 4 (v := .slice none 0 0) rfl
  have vR5 := HR3.out.cell 5 (v := .slice (some ⟨pb, 0, none⟩) 3 3) rfl
  have vR6 := HR3.out.cell 6 (v := .slice (some ⟨qb, 0, none⟩) 0 0) rfl
  go_wp2_with fail
  refine (serve_Handle1 (some ⟨qb, 0, none⟩) 0 pb 3 f g _ HT3.out HP3.out).mono ?_
  rintro e w4 ⟨rfl, B⟩
  clear vE0 vR0 vR1 vR2 vR3 vR4 vR5 vR6
  have HB4 := Lib.hid (HB3.out.trans (B.mono HB3.out.size))
  have FT_4 := Lib.hid (HT3.out.below B (Nat.le_refl _))
  have FR_4 := Lib.hid (HR3.out.below B (Nat.le_refl _))
  have FE_4 := Lib.hid (HE3.out.below B (Nat.le_refl _))
  have FO_4 := Lib.hid (HO3.out.below B (Nat.le_refl _))
  have FP_4 := Lib.hid (HP3.out.below B (Nat.le_refl _))
  clear B  HB3 HT3 HR3 HE3 HO3 HP3
  have e0 := FE_4.out.cell 0 (v := .int .i64 0) rfl; have ez := FE_4.out.free 0
  have d0 := (FE_4.out.alloc (.cells #[.int .i64 (sg (det (f 0) (g 0) (f 1) (g 1) (f 2) (g 2)) + 1), .int .i64 0, .slice none 0 0] 102)).cell 0 (v := .int .i64 0) rfl; have dz := (FE_4.out.alloc (.cells #[.int .i64 (sg (det (f 0) (g 0) (f 1) (g 1) (f 2) (g 2)) + 1), .int .i64 0, .slice none 0 0] 102)).free 0
  go_upto_region 7 with (fail)
  clear e0 ez d0 dz
  have HRE := Lib.hid (show rb ≠ w.heap.size + 1 from fun e => by
    have h1 := FR_4.out
    have h2 := FE_4.out
    rw [← e] at h2
    unfold Bx at h1 h2
    rw [h1] at h2
    simp at h2)
  have HR5 := Lib.hid (show Bx ((w4.alloc (.cells #[.int .i64 (sg (det (f 0) (g 0) (f 1) (g 1) (f 2) (g 2)) + 1), .int .i64 0, .slice none 0 0] 102)).setCell ⟨w.heap.size + 1, 0, none⟩ (.int .i64 0)) rb #[.int .i64 1, .int .i64 0, .slice none 0 0, .int .i64 0, .slice none 0 0, .slice (some ⟨pb, 0, none⟩) 3 3, .slice (some ⟨qb, 0, none⟩) 0 0] 99 from (FR_4.out.alloc _).other _ HRE.out)
  have HA5 := Lib.hid (show Bx ((w4.alloc (.cells #[.int .i64 (sg (det (f 0) (g 0) (f 1) (g 1) (f 2) (g 2)) + 1), .int .i64 0, .slice none 0 0] 102)).setCell ⟨w.heap.size + 1, 0, none⟩ (.int .i64 0)) w4.heap.size #[.int .i64 (sg (det (f 0) (g 0) (f 1) (g 1) (f 2) (g 2)) + 1), .int .i64 0, .slice none 0 0] 102 from (Bx.new _ _ _).other _ (by have := FE_4.out.lt; show w4.heap.size ≠ w.heap.size + 1; omega))
  have HE5 := Lib.hid (show Bx ((w4.alloc (.cells #[.int .i64 (sg (det (f 0) (g 0) (f 1) (g 1) (f 2) (g 2)) + 1), .int .i64 0, .slice none 0 0] 102)).setCell ⟨w.heap.size + 1, 0, none⟩ (.int .i64 0)) (w.heap.size + 1) #[.int .i64 0] 67 from (FE_4.out.alloc _).set 0 _)
  have HO5 := Lib.hid (show Bx ((w4.alloc (.cells #[.int .i64 (sg (det (f 0) (g 0) (f 1) (g 1) (f 2) (g 2)) + 1), .int .i64 0, .slice none 0 0] 102)).setCell ⟨w.heap.size + 1, 0, none⟩ (.int .i64 0)) w.heap.size #[.slice none 0 0] 24 from (FO_4.out.alloc _).other _ (by show w.heap.size ≠ w.heap.size + 1; omega))
  have HB5 := Lib.hid (show Below w.heap.size w ((w4.alloc (.cells #[.int .i64 (sg (det (f 0) (g 0) (f 1) (g 1) (f 2) (g 2)) + 1), .int .i64 0, .slice none 0 0] 102)).setCell ⟨w.heap.size + 1, 0, none⟩ (.int .i64 0)) from (HB4.out.alloc HB4.out.size _).setCell (p := ⟨w.heap.size + 1, 0, none⟩) (by show w.heap.size ≤ w.heap.size + 1; omega) _)
  generalize ((w4.alloc (.cells #[.int .i64 (sg (det (f 0) (g 0) (f 1) (g 1) (f 2) (g 2)) + 1), .int .i64 0, .slice none 0 0] 102)).setCell ⟨w.heap.size + 1, 0, none⟩ (.int .i64 0)) = w5 at *
  generalize w4.heap.size = ab at *
  clear FE_4 FO_4 FP_4 HB4 FT_4 FR_4 HRE
  have HX := Lib.hid (show sg (det (f 0) (g 0) (f 1) (g 1) (f 2) (g 2)) + 1 = 0 ∨ sg (det (f 0) (g 0) (f 1) (g 1) (f 2) (g 2)) + 1 = 1 ∨ sg (det (f 0) (g 0) (f 1) (g 1) (f 2) (g 2)) + 1 = 2 from by have := sg_range (det (f 0) (g 0) (f 1) (g 1) (f 2) (g 2)); omega)
  have vE0 := HE5.out.cell 0 (v := .int .i64 0) rfl
  have vR0 := HR5.out.cell 0 (v := .int .i64 1) rfl
  have vR1 := HR5.out.cell 1 (v := .int .i64 0) rfl
  have vR2 := HR5.out.cell 2 (v := .slice none 0 0) rfl
  have vR3 := HR5.out.cell 3 (v := .int .i64 0) rfl
  have vR4 := HR5.out.cell 4 (v := .slice none 0 0) rfl
  have vR5 := HR5.out.cell 5 (v := .slice (some ⟨pb, 0, none⟩) 3 3) rfl
  have vR6 := HR5.out.cell 6 (v := .slice (some ⟨qb, 0, none⟩) 0 0) rfl
  have vA0 := HA5.out.cell 0 (v := .int .i64 (sg (det (f 0) (g 0) (f 1) (g 1) (f 2) (g 2)) + 1)) rfl
  have vA1 := HA5.out.cell 1 (v := .int .i64 0) rfl
  have vA2 := HA5.out.cell 2 (v := .slice none 0 0) rfl
  go_wp2_with fail
  refine (codec_Respond12 1 (by decide) _ HX.out _).mono ?_
  rintro e w6 ⟨⟨A', c', rfl, hby⟩, B⟩
  clear vE0 vR0 vR1 vR2 vR3 vR4 vR5 vR6 vA0 vA1 vA2
  have HB6 := Lib.hid (HB5.out.trans (B.mono HB5.out.size))
  have FR_6 := Lib.hid (HR5.out.below B (Nat.le_refl _))
  have FA_6 := Lib.hid (HA5.out.below B (Nat.le_refl _))
  have FE_6 := Lib.hid (HE5.out.below B (Nat.le_refl _))
  have FO_6 := Lib.hid (HO5.out.below B (Nat.le_refl _))
  have FY_6 := Lib.hid hby
  clear B hby HB5 HR5 HA5 HE5 HO5
  have e0 := FE_6.out.cell 0 (v := .int .i64 0) rfl; have ez := FE_6.out.free 0; have o0 := FO_6.out.cell 0 (v := .slice none 0 0) rfl; have oz := FO_6.out.free 0
  go_wp2_with fail
  clear e0 ez o0 oz
  have hne : w.heap.size ≠ w.heap.size + 1 := by omega
  have HO6 := Lib.hid (FO_6.out.set 0 (.slice A' 2 c'))
  have HE6 := Lib.hid (FE_6.out.other (a := ⟨w.heap.size, 0, none⟩) (.slice A' 2 c') (by show w.heap.size + 1 ≠ w.heap.size; omega))
  have HY6 := Lib.hid (by_keep FY_6.out FO_6.out (by simp) (gr_set _ _ 0 (.slice A' 2 c')))
  have HO7 := Lib.hid (HO6.out.other (a := ⟨w.heap.size + 1, 0, none⟩) (.int .i64 0) hne)
  have HE7 := Lib.hid (HE6.out.set 0 (.int .i64 0))
  have HY7 := Lib.hid (by_keep HY6.out HE6.out (by simp) (gr_set _ _ 0 (.int .i64 0)))
  have HO8 := Lib.hid (HO7.out.set 0 (.slice A' 2 c'))
  have HE8 := Lib.hid (HE7.out.other (a := ⟨w.heap.size, 0, none⟩) (.slice A' 2 c') (by show w.heap.size + 1 ≠ w.heap.size; omega))
  have HY8 := Lib.hid (by_keep HY7.out HO7.out (by simp) (gr_set _ _ 0 (.slice A' 2 c')))
  have HB8 := Lib.hid (((HB6.out.setCell (p := ⟨w.heap.size, 0, none⟩) (Nat.le_refl _) (.slice A' 2 c')).setCell (p := ⟨w.heap.size + 1, 0, none⟩) (by show w.heap.size ≤ w.heap.size + 1; omega) (.int .i64 0)).setCell (p := ⟨w.heap.size, 0, none⟩) (Nat.le_refl _) (.slice A' 2 c'))
  generalize (((w6.setCell ⟨w.heap.size, 0, none⟩ (.slice A' 2 c')).setCell ⟨w.heap.size + 1, 0, none⟩ (.int .i64 0)).setCell ⟨w.heap.size, 0, none⟩ (.slice A' 2 c')) = w8 at *
  refine leaves_cons (f := 53) (args := #[.pointer (some ⟨w.heap.size + 1, 0, none⟩), .pointer (some ⟨w.heap.size, 0, none⟩)]) (by simp) (by simp [go_sem]) ?_
  refine (traced_idle _ _ _ (HE8.out.cell 0 rfl) _).mono ?_
  rintro e u' w'' ⟨rfl, rfl, rfl⟩
  have q := HO8.out.cell 0 (v := .slice A' 2 c') rfl
  exact ⟨.slice A' 2 c', by simp [results, Tryz.results30, go_sem, q], ⟨A', c', rfl, HY8.out⟩, HB8.out⟩
set_option maxHeartbeats 4000000 in
set_option maxRecDepth 100000 in
theorem serve_Traced2 (A : Option Addr) (c : Nat) (f g : Nat → Int) (w : World) (hT : TabM w) (hF : TabF w) (hi : ∀ i, i < 4 → IsI (f i) ∧ IsI (g i)) (hb : By w A c (2 :: ptsB f g 4)) :
    Calls Tryz.prog 30 #[.pointer none, .slice A 65 c] w fun e w' => (∃ A' c', e = .returned (.slice A' 2 c') ∧ By w' A' c' [0, sg (circ (f 0) (g 0) (f 1) (g 1) (f 2) (g 2) (f 3) (g 3)) + 1]) ∧ Below w.heap.size w w' := by
  have HB0 := Lib.hid (Below.refl w.heap.size w); have FT := Lib.hid hT; have FF := Lib.hid hF; have FB := Lib.hid hb; have HI := Lib.hid hi; have HT0 := FT; clear hT hF hb hi
  have hmf : ∀ (fn : Fn) (first cap : Array Value) (w : World), (Instr.makeFunc fn first cap).run Tryz.prog w = .ok (.func fn first cap) w := fun _ _ _ _ => rfl
  go_enter_defers Tryz.func30, Tryz.ntmps30
  go_wp2_with fail
  have B : Below w.heap.size w ((w.alloc (.cells #[.slice none 0 0] 24)).alloc (.cells #[.int .i64 0] 67)) := ((HB0.out.alloc HB0.out.size _).alloc (HB0.out.alloc HB0.out.size _).size _)
  have C : Below w.heap.size w ((w.alloc (.cells #[.slice none 0 0] 24)).alloc (.cells #[.int .i64 0] 67)) := (((Below.refl w.heap.size w).alloc (Nat.le_refl _) _).alloc (by simp; try omega) _)
  have X0 : Bx ((w.alloc (.cells #[.slice none 0 0] 24)).alloc (.cells #[.int .i64 0] 67)) (w.heap.size) #[.slice none 0 0] 24 := by simpa using ((Bx.new w #[.slice none 0 0] 24).alloc _)
  have X1 : Bx ((w.alloc (.cells #[.slice none 0 0] 24)).alloc (.cells #[.int .i64 0] 67)) (w.heap.size + 1) #[.int .i64 0] 67 := by simpa using (Bx.new (w.alloc (.cells #[.slice none 0 0] 24)) #[.int .i64 0] 67)
  have FT_1 := Lib.hid (FT.out.below C (Nat.le_refl _))
  have FF_1 := Lib.hid (FF.out.below C (Nat.le_refl _))
  have FB_1 := Lib.hid (FB.out.below C (Nat.le_refl _))
  have HB1 := Lib.hid B
  have FO_1 := Lib.hid X0
  have FE_1 := Lib.hid X1
  clear B C X0 X1 HB0 FT FF FB
  generalize ((w.alloc (.cells #[.slice none 0 0] 24)).alloc (.cells #[.int .i64 0] 67)) = w1 at *
  skip
  refine (codec_Decode12 2 (by decide) A c f g HI.out _ FF_1.out FB_1.out).mono ?_
  rintro e w2 ⟨⟨pb, qb, rfl, hP⟩, B⟩
  have HB2 := Lib.hid (HB1.out.trans (B.mono HB1.out.size))
  have FT_2 := Lib.hid (FT_1.out.below B (Nat.le_refl _))
  have FF_2 := Lib.hid (FF_1.out.below B (Nat.le_refl _))
  have FB_2 := Lib.hid (FB_1.out.below B (Nat.le_refl _))
  have FO_2 := Lib.hid (FO_1.out.below B (Nat.le_refl _))
  have FE_2 := Lib.hid (FE_1.out.below B (Nat.le_refl _))
  have FP_2 := Lib.hid hP
  clear B hP HB1 FT_1 FF_1 FB_1 FO_1 FE_1
  have e0 := FE_2.out.cell 0 (v := .int .i64 0) rfl; have ez := FE_2.out.free 0
  have d0 := (FE_2.out.alloc (.cells #[.int .i64 2, .int .i64 0, .slice none 0 0, .int .i64 0, .slice none 0 0, .slice (some ⟨pb, 0, none⟩) 4 4, .slice (some ⟨qb, 0, none⟩) 0 0] 99)).cell 0 (v := .int .i64 0) rfl; have dz := (FE_2.out.alloc (.cells #[.int .i64 2, .int .i64 0, .slice none 0 0, .int .i64 0, .slice none 0 0, .slice (some ⟨pb, 0, none⟩) 4 4, .slice (some ⟨qb, 0, none⟩) 0 0] 99)).free 0
  go_upto_region 4 with (fail)
  clear e0 ez d0 dz
  have HPE := Lib.hid (show pb ≠ w.heap.size + 1 from fun e => by
    have h1 := FP_2.out.y0 (by decide)
    have h2 := FE_2.out
    rw [← e] at h2
    unfold Bx at h2
    simp [World.cell?, h2] at h1)
  have HR3 := Lib.hid (show Bx ((w2.alloc (.cells #[.int .i64 2, .int .i64 0, .slice none 0 0, .int .i64 0, .slice none 0 0, .slice (some ⟨pb, 0, none⟩) 4 4, .slice (some ⟨qb, 0, none⟩) 0 0] 99)).setCell ⟨w.heap.size + 1, 0, none⟩ (.int .i64 0)) w2.heap.size #[.int .i64 2, .int .i64 0, .slice none 0 0, .int .i64 0, .slice none 0 0, .slice (some ⟨pb, 0, none⟩) 4 4, .slice (some ⟨qb, 0, none⟩) 0 0] 99 from (Bx.new _ _ _).other _ (by have := FE_2.out.lt; show w2.heap.size ≠ w.heap.size + 1; omega))
  have HE3 := Lib.hid (show Bx ((w2.alloc (.cells #[.int .i64 2, .int .i64 0, .slice none 0 0, .int .i64 0, .slice none 0 0, .slice (some ⟨pb, 0, none⟩) 4 4, .slice (some ⟨qb, 0, none⟩) 0 0] 99)).setCell ⟨w.heap.size + 1, 0, none⟩ (.int .i64 0)) (w.heap.size + 1) #[.int .i64 0] 67 from (FE_2.out.alloc _).set 0 _)
  have HO3 := Lib.hid (show Bx ((w2.alloc (.cells #[.int .i64 2, .int .i64 0, .slice none 0 0, .int .i64 0, .slice none 0 0, .slice (some ⟨pb, 0, none⟩) 4 4, .slice (some ⟨qb, 0, none⟩) 0 0] 99)).setCell ⟨w.heap.size + 1, 0, none⟩ (.int .i64 0)) w.heap.size #[.slice none 0 0] 24 from (FO_2.out.alloc _).other _ (by show w.heap.size ≠ w.heap.size + 1; omega))
  have HP3 := Lib.hid (show Pts ((w2.alloc (.cells #[.int .i64 2, .int .i64 0, .slice none 0 0, .int .i64 0, .slice none 0 0, .slice (some ⟨pb, 0, none⟩) 4 4, .slice (some ⟨qb, 0, none⟩) 0 0] 99)).setCell ⟨w.heap.size + 1, 0, none⟩ (.int .i64 0)) (some ⟨pb, 0, none⟩) 4 4 f g from (FP_2.out.alloc _).setFar HPE.out)
  have HB3 := Lib.hid (show Below w.heap.size w ((w2.alloc (.cells #[.int .i64 2, .int .i64 0, .slice none 0 0, .int .i64 0, .slice none 0 0, .slice (some ⟨pb, 0, none⟩) 4 4, .slice (some ⟨qb, 0, none⟩) 0 0] 99)).setCell ⟨w.heap.size + 1, 0, none⟩ (.int .i64 0)) from (HB2.out.alloc HB2.out.size _).setCell (p := ⟨w.heap.size + 1, 0, none⟩) (by show w.heap.size ≤ w.heap.size + 1; omega) _)
  have HT3 := Lib.hid (HT0.out.below HB3.out (Nat.le_refl _))
  generalize ((w2.alloc (.cells #[.int .i64 2, .int .i64 0, .slice none 0 0, .int .i64 0, .slice none 0 0, .slice (some ⟨pb, 0, none⟩) 4 4, .slice (some ⟨qb, 0, none⟩) 0 0] 99)).setCell ⟨w.heap.size + 1, 0, none⟩ (.int .i64 0)) = w3 at *
  generalize w2.heap.size = rb at *
  clear FE_2 FO_2 FP_2 HB2 FT_2 HPE
  have vE0 := HE3.out.cell 0 (v := .int .i64 0) rfl
  have vR0 := HR3.out.cell 0 (v := .int .i64 2) rfl
  have vR1 := HR3.out.cell 1 (v := .int .i64 0) rfl
  have vR2 := HR3.out.cell 2 (v := .slice none 0 0) rfl
  have vR3 := HR3.out.cell 3 (v := .int .i64 0) rfl
  have vR4 := HR3.out.cell 4 (v := .slice none 0 0) rfl
  have vR5 := HR3.out.cell 5 (v := .slice (some ⟨pb, 0, none⟩) 4 4) rfl
  have vR6 := HR3.out.cell 6 (v := .slice (some ⟨qb, 0, none⟩) 0 0) rfl
  go_wp2_with fail
  refine (serve_Handle2 (some ⟨qb, 0, none⟩) 0 pb 4 f g _ HT3.out HP3.out).mono ?_
  rintro e w4 ⟨rfl, B⟩
  clear vE0 vR0 vR1 vR2 vR3 vR4 vR5 vR6
  have HB4 := Lib.hid (HB3.out.trans (B.mono HB3.out.size))
  have FT_4 := Lib.hid (HT3.out.below B (Nat.le_refl _))
  have FR_4 := Lib.hid (HR3.out.below B (Nat.le_refl _))
  have FE_4 := Lib.hid (HE3.out.below B (Nat.le_refl _))
  have FO_4 := Lib.hid (HO3.out.below B (Nat.le_refl _))
  have FP_4 := Lib.hid (HP3.out.below B (Nat.le_refl _))
  clear B  HB3 HT3 HR3 HE3 HO3 HP3
  have e0 := FE_4.out.cell 0 (v := .int .i64 0) rfl; have ez := FE_4.out.free 0
  have d0 := (FE_4.out.alloc (.cells #[.int .i64 (sg (circ (f 0) (g 0) (f 1) (g 1) (f 2) (g 2) (f 3) (g 3)) + 1), .int .i64 0, .slice none 0 0] 102)).cell 0 (v := .int .i64 0) rfl; have dz := (FE_4.out.alloc (.cells #[.int .i64 (sg (circ (f 0) (g 0) (f 1) (g 1) (f 2) (g 2) (f 3) (g 3)) + 1), .int .i64 0, .slice none 0 0] 102)).free 0
  go_upto_region 7 with (fail)
  clear e0 ez d0 dz
  have HRE := Lib.hid (show rb ≠ w.heap.size + 1 from fun e => by
    have h1 := FR_4.out
    have h2 := FE_4.out
    rw [← e] at h2
    unfold Bx at h1 h2
    rw [h1] at h2
    simp at h2)
  have HR5 := Lib.hid (show Bx ((w4.alloc (.cells #[.int .i64 (sg (circ (f 0) (g 0) (f 1) (g 1) (f 2) (g 2) (f 3) (g 3)) + 1), .int .i64 0, .slice none 0 0] 102)).setCell ⟨w.heap.size + 1, 0, none⟩ (.int .i64 0)) rb #[.int .i64 2, .int .i64 0, .slice none 0 0, .int .i64 0, .slice none 0 0, .slice (some ⟨pb, 0, none⟩) 4 4, .slice (some ⟨qb, 0, none⟩) 0 0] 99 from (FR_4.out.alloc _).other _ HRE.out)
  have HA5 := Lib.hid (show Bx ((w4.alloc (.cells #[.int .i64 (sg (circ (f 0) (g 0) (f 1) (g 1) (f 2) (g 2) (f 3) (g 3)) + 1), .int .i64 0, .slice none 0 0] 102)).setCell ⟨w.heap.size + 1, 0, none⟩ (.int .i64 0)) w4.heap.size #[.int .i64 (sg (circ (f 0) (g 0) (f 1) (g 1) (f 2) (g 2) (f 3) (g 3)) + 1), .int .i64 0, .slice none 0 0] 102 from (Bx.new _ _ _).other _ (by have := FE_4.out.lt; show w4.heap.size ≠ w.heap.size + 1; omega))
  have HE5 := Lib.hid (show Bx ((w4.alloc (.cells #[.int .i64 (sg (circ (f 0) (g 0) (f 1) (g 1) (f 2) (g 2) (f 3) (g 3)) + 1), .int .i64 0, .slice none 0 0] 102)).setCell ⟨w.heap.size + 1, 0, none⟩ (.int .i64 0)) (w.heap.size + 1) #[.int .i64 0] 67 from (FE_4.out.alloc _).set 0 _)
  have HO5 := Lib.hid (show Bx ((w4.alloc (.cells #[.int .i64 (sg (circ (f 0) (g 0) (f 1) (g 1) (f 2) (g 2) (f 3) (g 3)) + 1), .int .i64 0, .slice none 0 0] 102)).setCell ⟨w.heap.size + 1, 0, none⟩ (.int .i64 0)) w.heap.size #[.slice none 0 0] 24 from (FO_4.out.alloc _).other _ (by show w.heap.size ≠ w.heap.size + 1; omega))
  have HB5 := Lib.hid (show Below w.heap.size w ((w4.alloc (.cells #[.int .i64 (sg (circ (f 0) (g 0) (f 1) (g 1) (f 2) (g 2) (f 3) (g 3)) + 1), .int .i64 0, .slice none 0 0] 102)).setCell ⟨w.heap.size + 1, 0, none⟩ (.int .i64 0)) from (HB4.out.alloc HB4.out.size _).setCell (p := ⟨w.heap.size + 1, 0, none⟩) (by show w.heap.size ≤ w.heap.size + 1; omega) _)
  generalize ((w4.alloc (.cells #[.int .i64 (sg (circ (f 0) (g 0) (f 1) (g 1) (f 2) (g 2) (f 3) (g 3)) + 1), .int .i64 0, .slice none 0 0] 102)).setCell ⟨w.heap.size + 1, 0, none⟩ (.int .i64 0)) = w5 at *
  generalize w4.heap.size = ab at *
  clear FE_4 FO_4 FP_4 HB4 FT_4 FR_4 HRE
  have HX := Lib.hid (show sg (circ (f 0) (g 0) (f 1) (g 1) (f 2) (g 2) (f 3) (g 3)) + 1 = 0 ∨ sg (circ (f 0) (g 0) (f 1) (g 1) (f 2) (g 2) (f 3) (g 3)) + 1 = 1 ∨ sg (circ (f 0) (g 0) (f 1) (g 1) (f 2) (g 2) (f 3) (g 3)) + 1 = 2 from by have := sg_range (circ (f 0) (g 0) (f 1) (g 1) (f 2) (g 2) (f 3) (g 3)); omega)
  have vE0 := HE5.out.cell 0 (v := .int .i64 0) rfl
  have vR0 := HR5.out.cell 0 (v := .int .i64 2) rfl
  have vR1 := HR5.out.cell 1 (v := .int .i64 0) rfl
  have vR2 := HR5.out.cell 2 (v := .slice none 0 0) rfl
  have vR3 := HR5.out.cell 3 (v := .int .i64 0) rfl
  have vR4 := HR5.out.cell 4 (v := .slice none 0 0) rfl
  have vR5 := HR5.out.cell 5 (v := .slice (some ⟨pb, 0, none⟩) 4 4) rfl
  have vR6 := HR5.out.cell 6 (v := .slice (some ⟨qb, 0, none⟩) 0 0) rfl
  have vA0 := HA5.out.cell 0 (v := .int .i64 (sg (circ (f 0) (g 0) (f 1) (g 1) (f 2) (g 2) (f 3) (g 3)) + 1)) rfl
  have vA1 := HA5.out.cell 1 (v := .int .i64 0) rfl
  have vA2 := HA5.out.cell 2 (v := .slice none 0 0) rfl
  go_wp2_with fail
  refine (codec_Respond12 2 (by decide) _ HX.out _).mono ?_
  rintro e w6 ⟨⟨A', c', rfl, hby⟩, B⟩
  clear vE0 vR0 vR1 vR2 vR3 vR4 vR5 vR6 vA0 vA1 vA2
  have HB6 := Lib.hid (HB5.out.trans (B.mono HB5.out.size))
  have FR_6 := Lib.hid (HR5.out.below B (Nat.le_refl _))
  have FA_6 := Lib.hid (HA5.out.below B (Nat.le_refl _))
  have FE_6 := Lib.hid (HE5.out.below B (Nat.le_refl _))
  have FO_6 := Lib.hid (HO5.out.below B (Nat.le_refl _))
  have FY_6 := Lib.hid hby
  clear B hby HB5 HR5 HA5 HE5 HO5
  have e0 := FE_6.out.cell 0 (v := .int .i64 0) rfl; have ez := FE_6.out.free 0; have o0 := FO_6.out.cell 0 (v := .slice none 0 0) rfl; have oz := FO_6.out.free 0
  go_wp2_with fail
  clear e0 ez o0 oz
  have hne : w.heap.size ≠ w.heap.size + 1 := by omega
  have HO6 := Lib.hid (FO_6.out.set 0 (.slice A' 2 c'))
  have HE6 := Lib.hid (FE_6.out.other (a := ⟨w.heap.size, 0, none⟩) (.slice A' 2 c') (by show w.heap.size + 1 ≠ w.heap.size; omega))
  have HY6 := Lib.hid (by_keep FY_6.out FO_6.out (by simp) (gr_set _ _ 0 (.slice A' 2 c')))
  have HO7 := Lib.hid (HO6.out.other (a := ⟨w.heap.size + 1, 0, none⟩) (.int .i64 0) hne)
  have HE7 := Lib.hid (HE6.out.set 0 (.int .i64 0))
  have HY7 := Lib.hid (by_keep HY6.out HE6.out (by simp) (gr_set _ _ 0 (.int .i64 0)))
  have HO8 := Lib.hid (HO7.out.set 0 (.slice A' 2 c'))
  have HE8 := Lib.hid (HE7.out.other (a := ⟨w.heap.size, 0, none⟩) (.slice A' 2 c') (by show w.heap.size + 1 ≠ w.heap.size; omega))
  have HY8 := Lib.hid (by_keep HY7.out HO7.out (by simp) (gr_set _ _ 0 (.slice A' 2 c')))
  have HB8 := Lib.hid (((HB6.out.setCell (p := ⟨w.heap.size, 0, none⟩) (Nat.le_refl _) (.slice A' 2 c')).setCell (p := ⟨w.heap.size + 1, 0, none⟩) (by show w.heap.size ≤ w.heap.size + 1; omega) (.int .i64 0)).setCell (p := ⟨w.heap.size, 0, none⟩) (Nat.le_refl _) (.slice A' 2 c'))
  generalize (((w6.setCell ⟨w.heap.size, 0, none⟩ (.slice A' 2 c')).setCell ⟨w.heap.size + 1, 0, none⟩ (.int .i64 0)).setCell ⟨w.heap.size, 0, none⟩ (.slice A' 2 c')) = w8 at *
  refine leaves_cons (f := 53) (args := #[.pointer (some ⟨w.heap.size + 1, 0, none⟩), .pointer (some ⟨w.heap.size, 0, none⟩)]) (by simp) (by simp [go_sem]) ?_
  refine (traced_idle _ _ _ (HE8.out.cell 0 rfl) _).mono ?_
  rintro e u' w'' ⟨rfl, rfl, rfl⟩
  have q := HO8.out.cell 0 (v := .slice A' 2 c') rfl
  exact ⟨.slice A' 2 c', by simp [results, Tryz.results30, go_sem, q], ⟨A', c', rfl, HY8.out⟩, HB8.out⟩
end Go.Proofs.YtjdiilkljgljkaaGreatDoor
namespace Go.Proofs.YtjdiilkljgljkaaGreatDoor
set_option linter.unusedVariables false
set_option linter.unusedSimpArgs false
open Go.RowKit Wd

theorem wp_scope_once {P : Program} {a : Act} {w : World} {Q : Exit → Act → World → Prop} {c rest : Code} (l : Nat) (hf : findLabel c l = some rest)
    (first : c.wp P (Exit.jump l (fun a' w' => rest.wp P (Exit.jump l (fun _ _ => False) Q) a' w') Q) a w) : (Code.scope c).wp P Q a w := by
  refine wp_scope_jumps l _ (fun _ _ => 0) hf first fun a w h => ?_
  intro b k cs
  obtain ⟨e, a', w', hq, harr⟩ := h b k cs
  refine ⟨e, a', w', ?_, harr⟩
  cases e <;> first | exact hq | exact ⟨hq.1, hq.2.elim⟩
theorem jump_ret {l : Nat} {J : Act → World → Prop} {Q : Exit → Act → World → Prop} {a : Act} {w : World} : Exit.jump l J Q .ret a w = Q .ret a w := rfl
set_option maxHeartbeats 4000000 in
set_option maxRecDepth 100000 in
theorem header_ParseNil (w : World) :
    Calls Tryz.prog 78 #[.slice none 0 0] w fun e w' => e = .returned (.tuple #[.agg #[.int .i64 0, .int .i64 0, .slice none 0 0, .int .i64 0], .int .i64 0, .int .i64 4]) ∧ Below w.heap.size w w' := by
  go_enter Tryz.func78, Tryz.ntmps78
  go_wp2_with fail
  refine wp_scope_once 0 rfl ?_
  go_wp2_with fail
  refine wp_goto ?_
  refine ⟨rfl, ?_⟩
  go_wp2_with fail
  rw [jump_ret]
  refine bodyPost_ret (v := .tuple #[.agg #[.int .i64 0, .int .i64 0, .slice none 0 0, .int .i64 0], .int .i64 0, .int .i64 4]) (by simp [results, Tryz.results78, go_sem]) rfl ⟨rfl, ?_⟩
  repeat (first | exact below_rf | (refine below_st ?_ ?_; (focus (first | (simp; done) | omega | (simp <;> omega)))) | refine below_al ?_)
set_option maxHeartbeats 4000000 in
set_option maxRecDepth 100000 in
theorem header_ClassifyNil (w : World) :
    Calls Tryz.prog 77 #[.slice none 0 0] w fun e w' => e = .returned (.int .i64 4) ∧ Below w.heap.size w w' := by
  go_enter Tryz.func77, Tryz.ntmps77
  go_wp2_with fail
  refine (header_ParseNil _).mono ?_
  rintro e w1 ⟨rfl, B⟩
  have HB := Lib.hid B; clear B
  go_wp2_with fail
  go_ret
  exact ⟨rfl, HB.out.alloc HB.out.size _⟩
set_option maxHeartbeats 4000000 in
set_option maxRecDepth 100000 in
theorem codec_DecodeNil (w : World) :
    Calls Tryz.prog 54 #[.slice none 0 0] w fun e w' => e = .returned (.tuple #[.agg #[.int .i64 0, .int .i64 0, .slice none 0 0, .int .i64 0, .slice none 0 0, .slice none 0 0, .slice none 0 0], .int .i64 4]) ∧ Below w.heap.size w w' := by
  go_enter Tryz.func54, Tryz.ntmps54
  go_wp2_with fail
  have HZ := Lib.hid (Bx.new w #[.int .i64 0, .int .i64 0, .slice none 0 0, .int .i64 0, .slice none 0 0, .slice none 0 0, .slice none 0 0] 99)
  have HB1 := Lib.hid (show Below w.heap.size w (w.alloc (.cells #[.int .i64 0, .int .i64 0, .slice none 0 0, .int .i64 0, .slice none 0 0, .slice none 0 0, .slice none 0 0] 99)) from below_al below_rf)
  generalize w.alloc (.cells #[.int .i64 0, .int .i64 0, .slice none 0 0, .int .i64 0, .slice none 0 0, .slice none 0 0, .slice none 0 0] 99) = w1 at *
  refine (header_ClassifyNil _).mono ?_
  rintro e w2 ⟨rfl, B⟩
  have HZ2 := Lib.hid (HZ.out.below B (Nat.le_refl _)); have HB2 := Lib.hid (HB1.out.trans (B.mono HB1.out.size)); clear B HZ HB1
  have c0 := HZ2.out.cell 0 (v := .int .i64 0) rfl
  have z0 := HZ2.out.free 0
  have c1 := HZ2.out.cell 1 (v := .int .i64 0) rfl
  have z1 := HZ2.out.free 1
  have c2 := HZ2.out.cell 2 (v := .slice none 0 0) rfl
  have z2 := HZ2.out.free 2
  have c3 := HZ2.out.cell 3 (v := .int .i64 0) rfl
  have z3 := HZ2.out.free 3
  have c4 := HZ2.out.cell 4 (v := .slice none 0 0) rfl
  have z4 := HZ2.out.free 4
  have c5 := HZ2.out.cell 5 (v := .slice none 0 0) rfl
  have z5 := HZ2.out.free 5
  have c6 := HZ2.out.cell 6 (v := .slice none 0 0) rfl
  have z6 := HZ2.out.free 6
  go_wp2_with fail
  clear c0 z0 c1 z1 c2 z2 c3 z3 c4 z4 c5 z5 c6 z6
  have HZ3 := Lib.hid (((((((HZ2.out.set 0 (.int .i64 0)).set 1 (.int .i64 0)).set 2 (.slice none 0 0)).set 3 (.int .i64 0)).set 4 (.slice none 0 0)).set 5 (.slice none 0 0)).set 6 (.slice none 0 0))
  have HB3 := Lib.hid (((((((HB2.out.setCell (p := ⟨w.heap.size, 0, none⟩) (Nat.le_refl _) (.int .i64 0)).setCell (p := ⟨w.heap.size, 1, none⟩) (Nat.le_refl _) (.int .i64 0)).setCell (p := ⟨w.heap.size, 2, none⟩) (Nat.le_refl _) (.slice none 0 0)).setCell (p := ⟨w.heap.size, 3, none⟩) (Nat.le_refl _) (.int .i64 0)).setCell (p := ⟨w.heap.size, 4, none⟩) (Nat.le_refl _) (.slice none 0 0)).setCell (p := ⟨w.heap.size, 5, none⟩) (Nat.le_refl _) (.slice none 0 0)).setCell (p := ⟨w.heap.size, 6, none⟩) (Nat.le_refl _) (.slice none 0 0))
  generalize (((((((w2.setCell ⟨w.heap.size, 0, none⟩ (.int .i64 0)).setCell ⟨w.heap.size, 1, none⟩ (.int .i64 0)).setCell ⟨w.heap.size, 2, none⟩ (.slice none 0 0)).setCell ⟨w.heap.size, 3, none⟩ (.int .i64 0)).setCell ⟨w.heap.size, 4, none⟩ (.slice none 0 0)).setCell ⟨w.heap.size, 5, none⟩ (.slice none 0 0)).setCell ⟨w.heap.size, 6, none⟩ (.slice none 0 0)) = w3 at *
  have q0 := HZ3.out.cell 0 (v := .int .i64 0) rfl
  have q1 := HZ3.out.cell 1 (v := .int .i64 0) rfl
  have q2 := HZ3.out.cell 2 (v := .slice none 0 0) rfl
  have q3 := HZ3.out.cell 3 (v := .int .i64 0) rfl
  have q4 := HZ3.out.cell 4 (v := .slice none 0 0) rfl
  have q5 := HZ3.out.cell 5 (v := .slice none 0 0) rfl
  have q6 := HZ3.out.cell 6 (v := .slice none 0 0) rfl
  refine bodyPost_ret (v := .tuple #[.agg #[.int .i64 0, .int .i64 0, .slice none 0 0, .int .i64 0, .slice none 0 0, .slice none 0 0, .slice none 0 0], .int .i64 4]) (by simp [results, Tryz.results54, go_sem, q0, q1, q2, q3, q4, q5, q6]) rfl ⟨rfl, HB3.out⟩
end Go.Proofs.YtjdiilkljgljkaaGreatDoor
namespace Go.Proofs.YtjdiilkljgljkaaGreatDoor
set_option linter.unusedVariables false
set_option linter.unusedSimpArgs false
open Go.RowKit Wd

set_option maxHeartbeats 4000000 in
set_option maxRecDepth 100000 in
theorem traced_err (pe po : Nat) (w : World) (v0 : Value) (hc : w.cell? ⟨pe, 0, none⟩ = some (.int .i64 4)) (ho : w.cell? ⟨po, 0, none⟩ = some v0) (hz : w.frozen? ⟨po, 0, none⟩ = false) (u : FrameMode) :
    CallsD Tryz.prog 53 #[.pointer (some ⟨pe, 0, none⟩), .pointer (some ⟨po, 0, none⟩)] u w fun e u' w' => u' = u ∧ (e = .returned (.tuple #[]) ∧ w' = (w.setCell ⟨po, 0, none⟩ (.slice (some ⟨w.heap.size, 0, none⟩) 1 1)).alloc (.cells #[.int .u8 4] 5)) := by
  have hlt : po < w.heap.size := lt_of_cell' ho
  have o0 : (w.alloc (.cells #[.int .u8 4] 5)).cell? ⟨po, 0, none⟩ = some v0 := (((Below.refl w.heap.size w).alloc (Nat.le_refl _) _).cell (p := ⟨po, 0, none⟩) hlt).trans ho
  have z0 : (w.alloc (.cells #[.int .u8 4] 5)).frozen? ⟨po, 0, none⟩ = false := (((Below.refl w.heap.size w).alloc (Nat.le_refl _) _).frozen (p := ⟨po, 0, none⟩) hlt).trans hz
  go_enter_d Tryz.func53, Tryz.ntmps53
  go_wp2_with fail
  go_end0
  exact ⟨rfl, rfl⟩
set_option maxHeartbeats 4000000 in
set_option maxRecDepth 100000 in
theorem serve_TracedNil (w : World) :
    Calls Tryz.prog 30 #[.pointer none, .slice none 0 0] w fun e w' => (∃ A' c', e = .returned (.slice A' 1 c') ∧ By w' A' c' [4]) ∧ Below w.heap.size w w' := by
  have hmf : ∀ (fn : Fn) (first cap : Array Value) (w : World), (Instr.makeFunc fn first cap).run Tryz.prog w = .ok (.func fn first cap) w := fun _ _ _ _ => rfl
  go_enter_defers Tryz.func30, Tryz.ntmps30
  go_wp2_with fail
  have HO := Lib.hid (show Bx ((w.alloc (.cells #[.slice none 0 0] 24)).alloc (.cells #[.int .i64 0] 67)) w.heap.size #[.slice none 0 0] 24 from (Bx.new _ _ _).alloc _)
  have HE := Lib.hid (show Bx ((w.alloc (.cells #[.slice none 0 0] 24)).alloc (.cells #[.int .i64 0] 67)) (w.heap.size + 1) #[.int .i64 0] 67 from bx_new (by simp))
  have HB := Lib.hid (show Below w.heap.size w ((w.alloc (.cells #[.slice none 0 0] 24)).alloc (.cells #[.int .i64 0] 67)) from below_al (below_al below_rf))
  generalize (w.alloc (.cells #[.slice none 0 0] 24)).alloc (.cells #[.int .i64 0] 67) = w1 at *
  refine (codec_DecodeNil _).mono ?_
  rintro e w2 ⟨rfl, B⟩
  have HO2 := Lib.hid (HO.out.below B (Nat.le_refl _)); have HE2 := Lib.hid (HE.out.below B (Nat.le_refl _)); have HB2 := Lib.hid (HB.out.trans (B.mono HB.out.size)); clear B HO HE HB
  have d0 := (HE2.out.alloc (.cells #[.int .i64 0, .int .i64 0, .slice none 0 0, .int .i64 0, .slice none 0 0, .slice none 0 0, .slice none 0 0] 99)).cell 0 (v := .int .i64 0) rfl
  have dz := (HE2.out.alloc (.cells #[.int .i64 0, .int .i64 0, .slice none 0 0, .int .i64 0, .slice none 0 0, .slice none 0 0, .slice none 0 0] 99)).free 0
  go_upto_region 4 with (fail)
  clear d0 dz
  have HE3 := Lib.hid (show Bx ((w2.alloc (.cells #[.int .i64 0, .int .i64 0, .slice none 0 0, .int .i64 0, .slice none 0 0, .slice none 0 0, .slice none 0 0] 99)).setCell ⟨w.heap.size + 1, 0, none⟩ (.int .i64 4)) (w.heap.size + 1) #[.int .i64 4] 67 from (HE2.out.alloc _).set 0 _)
  have HO3 := Lib.hid (show Bx ((w2.alloc (.cells #[.int .i64 0, .int .i64 0, .slice none 0 0, .int .i64 0, .slice none 0 0, .slice none 0 0, .slice none 0 0] 99)).setCell ⟨w.heap.size + 1, 0, none⟩ (.int .i64 4)) w.heap.size #[.slice none 0 0] 24 from (HO2.out.alloc _).other _ (by show w.heap.size ≠ w.heap.size + 1; omega))
  have HB3 := Lib.hid (show Below w.heap.size w ((w2.alloc (.cells #[.int .i64 0, .int .i64 0, .slice none 0 0, .int .i64 0, .slice none 0 0, .slice none 0 0, .slice none 0 0] 99)).setCell ⟨w.heap.size + 1, 0, none⟩ (.int .i64 4)) from (HB2.out.alloc HB2.out.size _).setCell (p := ⟨w.heap.size + 1, 0, none⟩) (by show w.heap.size ≤ w.heap.size + 1; omega) _)
  generalize ((w2.alloc (.cells #[.int .i64 0, .int .i64 0, .slice none 0 0, .int .i64 0, .slice none 0 0, .slice none 0 0, .slice none 0 0] 99)).setCell ⟨w.heap.size + 1, 0, none⟩ (.int .i64 4)) = w3 at *
  clear HE2 HO2 HB2
  have e0 := HE3.out.cell 0 (v := .int .i64 4) rfl
  have o0 := HO3.out.cell 0 (v := .slice none 0 0) rfl
  have oz := HO3.out.free 0
  go_wp2_with fail
  clear e0 o0 oz
  have HE4 := Lib.hid (HE3.out.other (a := ⟨w.heap.size, 0, none⟩) (.slice none 0 0) (by show w.heap.size + 1 ≠ w.heap.size; omega))
  have HO4 := Lib.hid (HO3.out.set 0 (.slice none 0 0))
  have HB4 := Lib.hid (HB3.out.setCell (p := ⟨w.heap.size, 0, none⟩) (Nat.le_refl _) (.slice none 0 0))
  generalize w3.setCell ⟨w.heap.size, 0, none⟩ (.slice none 0 0) = w4 at *
  refine leaves_cons (f := 53) (args := #[.pointer (some ⟨w.heap.size + 1, 0, none⟩), .pointer (some ⟨w.heap.size, 0, none⟩)]) (by simp) (by simp [go_sem]) ?_
  refine (traced_err _ _ _ (.slice none 0 0) (HE4.out.cell 0 rfl) (HO4.out.cell 0 rfl) (HO4.out.free 0) _).mono ?_
  rintro e u' w'' ⟨rfl, rfl, rfl⟩
  have HO5 := Lib.hid ((HO4.out.set 0 (.slice (some ⟨w4.heap.size, 0, none⟩) 1 1)).alloc (.cells #[.int .u8 4] 5))
  have HN5 := Lib.hid (show Bx ((w4.setCell ⟨w.heap.size, 0, none⟩ (.slice (some ⟨w4.heap.size, 0, none⟩) 1 1)).alloc (.cells #[.int .u8 4] 5)) w4.heap.size #[.int .u8 4] 5 from bx_new (by simp [World.setCell]))
  have HB5 := Lib.hid (((HB4.out.setCell (p := ⟨w.heap.size, 0, none⟩) (Nat.le_refl _) (.slice (some ⟨w4.heap.size, 0, none⟩) 1 1)).alloc (by have := HB4.out.size; simpa [World.setCell] using this) (.cells #[.int .u8 4] 5)))
  generalize (w4.setCell ⟨w.heap.size, 0, none⟩ (.slice (some ⟨w4.heap.size, 0, none⟩) 1 1)).alloc (.cells #[.int .u8 4] 5) = w5 at *
  have q := HO5.out.cell 0 (v := .slice (some ⟨w4.heap.size, 0, none⟩) 1 1) rfl
  refine ⟨.slice (some ⟨w4.heap.size, 0, none⟩) 1 1, by simp [results, Tryz.results30, go_sem, q], ⟨some ⟨w4.heap.size, 0, none⟩, 1, rfl, ?_⟩, HB5.out⟩
  refine ⟨by decide, by decide, fun _ => ⟨w4.heap.size, 0, rfl, HN5.out.lt, fun i x hi => ?_⟩⟩
  match i, hi with
  | 0, hi => simp at hi; subst hi; exact HN5.out.cell 0 rfl
  | i + 1, hi => simp at hi
set_option maxHeartbeats 4000000 in
set_option maxRecDepth 100000 in
theorem serve_ServeNil (w : World) :
    Calls Tryz.prog 11 #[.slice none 0 0] w fun e w' => (∃ A' c', e = .returned (.slice A' 1 c') ∧ By w' A' c' [4]) ∧ Below w.heap.size w w' := by
  go_enter Tryz.func11, Tryz.ntmps11
  go_wp2_with fail
  refine (serve_TracedNil _).mono ?_
  rintro e w' ⟨⟨A', c', rfl, hy⟩, B⟩
  have HY := Lib.hid hy; have HB := Lib.hid B; clear hy B
  go_wp2_with fail
  go_ret
  exact ⟨⟨A', c', rfl, HY.out⟩, HB.out⟩
set_option maxHeartbeats 4000000 in
set_option maxRecDepth 100000 in
theorem serve_Serve1 (A : Option Addr) (c : Nat) (f g : Nat → Int) (w : World) (hT : TabM w) (hF : TabF w) (hi : ∀ i, i < 3 → IsI (f i) ∧ IsI (g i)) (hb : By w A c (1 :: ptsB f g 3)) :
    Calls Tryz.prog 11 #[.slice A 49 c] w fun e w' => (∃ A' c', e = .returned (.slice A' 2 c') ∧ By w' A' c' [0, sg (det (f 0) (g 0) (f 1) (g 1) (f 2) (g 2)) + 1]) ∧ Below w.heap.size w w' := by
  have HC := Lib.hid (serve_Traced1 A c f g w hT hF hi hb); clear hT hF hi hb
  go_enter Tryz.func11, Tryz.ntmps11
  go_wp2_with fail
  refine HC.out.mono ?_
  rintro e w' ⟨⟨A', c', rfl, hy⟩, B⟩
  have HY := Lib.hid hy; have HB := Lib.hid B; clear hy B
  go_wp2_with fail
  go_ret
  exact ⟨⟨A', c', rfl, HY.out⟩, HB.out⟩
set_option maxHeartbeats 4000000 in
set_option maxRecDepth 100000 in
theorem serve_Serve2 (A : Option Addr) (c : Nat) (f g : Nat → Int) (w : World) (hT : TabM w) (hF : TabF w) (hi : ∀ i, i < 4 → IsI (f i) ∧ IsI (g i)) (hb : By w A c (2 :: ptsB f g 4)) :
    Calls Tryz.prog 11 #[.slice A 65 c] w fun e w' => (∃ A' c', e = .returned (.slice A' 2 c') ∧ By w' A' c' [0, sg (circ (f 0) (g 0) (f 1) (g 1) (f 2) (g 2) (f 3) (g 3)) + 1]) ∧ Below w.heap.size w w' := by
  have HC := Lib.hid (serve_Traced2 A c f g w hT hF hi hb); clear hT hF hi hb
  go_enter Tryz.func11, Tryz.ntmps11
  go_wp2_with fail
  refine HC.out.mono ?_
  rintro e w' ⟨⟨A', c', rfl, hy⟩, B⟩
  have HY := Lib.hid hy; have HB := Lib.hid B; clear hy B
  go_wp2_with fail
  go_ret
  exact ⟨⟨A', c', rfl, HY.out⟩, HB.out⟩
end Go.Proofs.YtjdiilkljgljkaaGreatDoor
namespace Go.Proofs.YtjdiilkljgljkaaGreatDoor
set_option linter.unusedVariables false
set_option linter.unusedSimpArgs false
open Go.RowKit Wd

theorem By.bytesIn {w : World} {A : Option Addr} {c : Nat} {l : List Int} (h : By w A c l) : Lib.BytesIn w A l.length l := by
  intro h0
  obtain ⟨b, off, e, hlt, hc⟩ := h.at_ h0
  exact ⟨b, off, e, fun i hi => hc i _ (by rw [List.getD_eq_getElem?_getD, List.getElem?_eq_getElem hi]; rfl)⟩
set_option maxHeartbeats 4000000 in
set_option maxRecDepth 100000 in
theorem bytes_Equal_eq (A B : Option Addr) (c d : Nat) (l : List Int) (w : World) (h1 : By w A c l) (h2 : By w B d l) :
    Calls Tryz.prog 10 #[.slice A l.length c, .slice B l.length d] w fun e w' => e = .returned (.bool true) ∧ w = w' := by
  have k1 := h1.bytesIn.convert rfl c 24 5 9 Tryz.underlying24 Tryz.underlying5 Tryz.underlying9
  have k2 := h2.bytesIn.convert rfl d 24 5 9 Tryz.underlying24 Tryz.underlying5 Tryz.underlying9
  clear h1 h2
  generalize l.length = n at *
  go_enter Tryz.func10, Tryz.ntmps10
  go_wp2_with fail
  go_ret
  exact ⟨rfl, rfl⟩
set_option maxHeartbeats 4000000 in
set_option maxRecDepth 100000 in
theorem top_request12 (op : Int) (ho : op = 1 ∨ op = 2) (A : Option Addr) (c : Nat) (f g : Nat → Int) (w : World) (hp : Pts w A (op + 2).toNat c f g) :
    Calls Tryz.prog 8 #[.agg #[.int .i64 op, .int .i64 0, .slice none 0 0, .int .i64 0, .slice none 0 0, .slice A (op + 2).toNat c, .slice none 0 0]] w fun e w' => (∃ A' c', e = .returned (.slice A' (16 * (op + 2).toNat + 1) c') ∧ By w' A' c' (op :: ptsB f g (op + 2).toNat)) ∧ Below w.heap.size w w' := by
  rcases ho with rfl | rfl
  · have HP := Lib.hid (show Pts w A 3 c f g from hp); clear hp
    rw [show ((1 : Int) + 2).toNat = 3 from rfl]
    go_enter Tryz.func8, Tryz.ntmps8
    go_wp2_with fail
    have HP1 := Lib.hid (HP.out.alloc (.cells #[.int .i64 1, .int .i64 0, .slice none 0 0, .int .i64 0, .slice none 0 0, .slice A 3 c, .slice none 0 0] 32))
    have HB1 := Lib.hid (show Below w.heap.size w (w.alloc (.cells #[.int .i64 1, .int .i64 0, .slice none 0 0, .int .i64 0, .slice none 0 0, .slice A 3 c, .slice none 0 0] 32)) from below_al below_rf)
    generalize w.alloc (.cells #[.int .i64 1, .int .i64 0, .slice none 0 0, .int .i64 0, .slice none 0 0, .slice A 3 c, .slice none 0 0] 32) = w1 at *
    refine (ref18_Encode12 1 (by decide) A c f g _ HP1.out).mono ?_
    rintro e w2 ⟨⟨v, rfl, ho2⟩, B⟩
    obtain ⟨A', c', rfl, hy⟩ := ho2.by
    have HY := Lib.hid hy; have HB := Lib.hid (HB1.out.trans (B.mono HB1.out.size))
    have hln : (1 :: ptsB f g ((1 : Int) + 2).toNat).length = 16 * 3 + 1 := by rw [List.length_cons, ptsB_len]; rfl
    rw [hln]
    clear hy ho2 B hln
    go_wp2_with fail
    go_ret
    exact ⟨⟨A', c', rfl, HY.out⟩, HB.out⟩
  · have HP := Lib.hid (show Pts w A 4 c f g from hp); clear hp
    rw [show ((2 : Int) + 2).toNat = 4 from rfl]
    go_enter Tryz.func8, Tryz.ntmps8
    go_wp2_with fail
    have HP1 := Lib.hid (HP.out.alloc (.cells #[.int .i64 2, .int .i64 0, .slice none 0 0, .int .i64 0, .slice none 0 0, .slice A 4 c, .slice none 0 0] 32))
    have HB1 := Lib.hid (show Below w.heap.size w (w.alloc (.cells #[.int .i64 2, .int .i64 0, .slice none 0 0, .int .i64 0, .slice none 0 0, .slice A 4 c, .slice none 0 0] 32)) from below_al below_rf)
    generalize w.alloc (.cells #[.int .i64 2, .int .i64 0, .slice none 0 0, .int .i64 0, .slice none 0 0, .slice A 4 c, .slice none 0 0] 32) = w1 at *
    refine (ref18_Encode12 2 (by decide) A c f g _ HP1.out).mono ?_
    rintro e w2 ⟨⟨v, rfl, ho2⟩, B⟩
    obtain ⟨A', c', rfl, hy⟩ := ho2.by
    have HY := Lib.hid hy; have HB := Lib.hid (HB1.out.trans (B.mono HB1.out.size))
    have hln : (2 :: ptsB f g ((2 : Int) + 2).toNat).length = 16 * 4 + 1 := by rw [List.length_cons, ptsB_len]; rfl
    rw [hln]
    clear hy ho2 B hln
    go_wp2_with fail
    go_ret
    exact ⟨⟨A', c', rfl, HY.out⟩, HB.out⟩
def sX : Nat → Int := fun i => if i = 1 then 1 else 0
def sY : Nat → Int := fun i => if i = 2 then 1 else 0
theorem isI_s (i : Nat) : IsI (sX i) ∧ IsI (sY i) := by
  unfold sX sY IsI; constructor <;> split <;> omega
noncomputable def z49 : Array Value := madeCells #[.int .u8 0] 49
theorem z49_0 : z49[0]? = some (.int .u8 0) := by kernel_rfl
theorem z49_17 : z49[17]? = some (.int .u8 0) := by kernel_rfl
theorem z49_41 : z49[41]? = some (.int .u8 0) := by kernel_rfl
theorem small_bytes : ((z49.setIfInBounds 0 (.int .u8 1)).setIfInBounds 17 (.int .u8 1)).setIfInBounds 41 (.int .u8 1) = (bCells (1 :: ptsB sX sY 3)).toArray := by kernel_rfl
theorem small_len : (1 :: ptsB sX sY 3).length = 49 := by rw [List.length_cons, ptsB_len]
theorem bx_by {w : World} {b : Nat} {l : List Int} {t : TypeId} (h : Bx w b (bCells l).toArray t) (hm : l.length ≤ maxLen) : By w (some ⟨b, 0, none⟩) l.length l :=
  ⟨Nat.le_refl _, hm, fun _ => ⟨b, 0, rfl, h.lt, fun i x hi => by rw [Nat.zero_add]; exact h.cell i (by simp [bCells, hi])⟩⟩
theorem makeB49 (w : World) : (Instr.makeSlice 24 (.int .i64 49) (.int .i64 49)).run Tryz.prog w = .ok (.slice (some ⟨w.heap.size, 0, none⟩) 49 49) (w.alloc (.cells z49 5)) := by kernel_rfl
set_option maxHeartbeats 4000000 in
set_option maxRecDepth 100000 in
theorem top_serves (w : World) (hT : TabM w) (hF : TabF w) :
    Calls Tryz.prog 9 #[] w fun e w' => e = .returned (.bool true) ∧ Below w.heap.size w w' := by
  have hmk := makeB49
  have HT := Lib.hid hT; have HF := Lib.hid hF; clear hT hF
  go_enter Tryz.func9, Tryz.ntmps9
  go_upto_region 2 with (fail)
  have HX := Lib.hid (Bx.new w z49 5)
  have HB1 := Lib.hid (show Below w.heap.size w (w.alloc (.cells z49 5)) from below_al below_rf)
  generalize w.alloc (.cells z49 5) = w1 at *
  have c0 := HX.out.cell 0 z49_0
  have c1 := HX.out.cell 17 z49_17
  have c2 := HX.out.cell 41 z49_41
  have z0 := HX.out.free 0
  have z1 := HX.out.free 17
  have z2 := HX.out.free 41
  go_upto_region 3 with (fail)
  clear c0 c1 c2 z0 z1 z2 hmk
  have HY2 := Lib.hid (show By (((w1.setCell ⟨w.heap.size, 0, none⟩ (.int .u8 1)).setCell ⟨w.heap.size, 17, none⟩ (.int .u8 1)).setCell ⟨w.heap.size, 41, none⟩ (.int .u8 1)) (some ⟨w.heap.size, 0, none⟩) 49 (1 :: ptsB sX sY 3) from by
    have h := ((HX.out.set 0 (.int .u8 1)).set 17 (.int .u8 1)).set 41 (.int .u8 1)
    rw [small_bytes] at h
    have h2 := bx_by h (by rw [small_len]; decide)
    rw [small_len] at h2; exact h2)
  have HB2 := Lib.hid (show Below w.heap.size w (((w1.setCell ⟨w.heap.size, 0, none⟩ (.int .u8 1)).setCell ⟨w.heap.size, 17, none⟩ (.int .u8 1)).setCell ⟨w.heap.size, 41, none⟩ (.int .u8 1)) from ((HB1.out.setCell (p := ⟨w.heap.size, 0, none⟩) (Nat.le_refl _) _).setCell (p := ⟨w.heap.size, 17, none⟩) (Nat.le_refl _) _).setCell (p := ⟨w.heap.size, 41, none⟩) (Nat.le_refl _) _)
  generalize ((w1.setCell ⟨w.heap.size, 0, none⟩ (.int .u8 1)).setCell ⟨w.heap.size, 17, none⟩ (.int .u8 1)).setCell ⟨w.heap.size, 41, none⟩ (.int .u8 1) = w2 at *
  clear HX HB1
  go_wp2_with fail
  refine (serve_ServeNil _).mono ?_
  rintro e w3 ⟨⟨A3, c3, rfl, hy3⟩, B3⟩
  have HY3 := Lib.hid (HY2.out.below B3 (Nat.le_refl _)); have HB3 := Lib.hid (HB2.out.trans (B3.mono HB2.out.size)); clear hy3 B3 HY2 HB2
  go_wp2_with fail
  refine (serve_Serve1 (some ⟨w.heap.size, 0, none⟩) 49 sX sY _ (HT.out.below HB3.out (Nat.le_refl _)) (HF.out.below HB3.out (Nat.le_refl _)) (fun i _ => isI_s i) HY3.out).mono ?_
  rintro e w4 ⟨⟨A4, c4, rfl, hy4⟩, B4⟩
  rw [show sg (det (sX 0) (sY 0) (sX 1) (sY 1) (sX 2) (sY 2)) + 1 = 2 from by decide] at hy4
  have HY4 := Lib.hid hy4; have HB4 := Lib.hid (HB3.out.trans (B4.mono HB3.out.size)); clear hy4 B4 HY3 HB3
  go_wp2_with fail
  have HE4 := Lib.hid (bytes_Equal_eq A4 (some ⟨w4.heap.size, 0, none⟩) c4 2 [0, 2] (w4.alloc (.cells #[.int .u8 0, .int .u8 2] 5)) (HY4.out.alloc _) (bx_by (l := [0, 2]) (Bx.new w4 _ 5) (by decide)))
  have HB5 := Lib.hid (HB4.out.alloc HB4.out.size (.cells #[.int .u8 0, .int .u8 2] 5))
  clear HY4 HB4
  refine HE4.out.mono ?_
  rintro e w5 ⟨rfl, rfl⟩
  clear HE4
  go_wp2_with fail
  refine (serve_ServeNil _).mono ?_
  rintro e w6 ⟨⟨A6, c6, rfl, hy6⟩, B6⟩
  have HY6 := Lib.hid hy6; have HB6 := Lib.hid (HB5.out.trans (B6.mono HB5.out.size)); clear hy6 B6 HB5
  go_wp2_with fail
  have HE6 := Lib.hid (bytes_Equal_eq A6 (some ⟨w6.heap.size, 0, none⟩) c6 1 [4] (w6.alloc (.cells #[.int .u8 4] 5)) (HY6.out.alloc _) (bx_by (l := [4]) (Bx.new w6 _ 5) (by decide)))
  have HB7 := Lib.hid (HB6.out.alloc HB6.out.size (.cells #[.int .u8 4] 5))
  clear HY6 HB6
  refine HE6.out.mono ?_
  rintro e w7 ⟨rfl, rfl⟩
  clear HE6
  go_wp2_with fail
  go_ret
  exact ⟨rfl, HB7.out⟩
end Go.Proofs.YtjdiilkljgljkaaGreatDoor
namespace Go.Proofs.YtjdiilkljgljkaaGreatDoor
set_option linter.unusedVariables false
set_option linter.unusedSimpArgs false
open Go.RowKit


theorem dg_S (k : Nat) : Dd.Dg (k + 1) (Dd.S k) := by
  have h := Dd.S_pos k
  refine ⟨⟨Int.le_of_lt h, by rw [Dd.S_succ]; omega⟩, fun _ => by rw [Nat.add_sub_cancel]; exact Int.le_refl _⟩
theorem lmb_S_low {k i : Nat} (h : i < k) : Dd.lmb (Dd.S k) i = 0 := by
  have e := Dd.lmb_cong 0 1 h
  rw [Int.zero_add, Int.one_mul] at e
  rw [e, Dd.lmb_zero]
theorem lmb_S_top (k : Nat) : Dd.lmb (Dd.S k) k = 1 := by
  have e := Dd.qt_add_mul 0 1 k
  rw [Int.zero_add, Int.one_mul] at e
  unfold Dd.lmb; rw [e]; unfold Dd.qt; rw [Int.zero_ediv]; rfl
theorem natAbs_S (k : Nat) : ((Dd.S k).natAbs : Int) = Dd.S k := by have := Dd.S_pos k; omega
theorem sg_S (k : Nat) : sg (Dd.S k) = 1 := by unfold sg; exact Int.sign_eq_one_of_pos (Dd.S_pos k)

theorem s4 : Dd.S 4 = 18446744073709551616 := rfl
set_option maxHeartbeats 1000000 in
theorem ref3_Int (x : Int) (hx : Wd.IsI x) (w : World) :
    Calls Tryz.prog 59 #[.int .i64 x] w fun e w' => (∃ A2 k c2, e = .returned (.agg #[.int .i64 (sg x), .slice A2 k c2]) ∧ k ≤ 4 ∧ Nm w' A2 k c2 x) ∧ Below w.heap.size w w' := by
  obtain ⟨i0, hi0, hz0, hz1, hz2⟩ := info_parts info_int
  obtain ⟨p, hp⟩ : ∃ p : Int, p = x.natAbs := ⟨_, rfl⟩
  have hf4 : Dd.Fits 4 p := by unfold Dd.Fits; rw [s4]; unfold Wd.IsI at hx; omega
  have hb1 : Below w.heap.size w (w.alloc (.cells #[.int .i64 0, .slice none 0 0] 41)) := (Below.refl w.heap.size w).alloc (Nat.le_refl _) _
  have hbox := heap_alloc_new w (.cells #[.int .i64 0, .slice none 0 0] 41)
  have hsz : w.heap.size < (w.alloc (.cells #[.int .i64 0, .slice none 0 0] 41)).heap.size := by simp
  obtain ⟨w1, hw1⟩ : ∃ w1, w1 = w.alloc (.cells #[.int .i64 0, .slice none 0 0] 41) := ⟨_, rfl⟩
  rw [← hw1] at hb1 hbox hsz
  have HW := Lib.hid hw1; have HX := Lib.hid hbox; have HB1 := Lib.hid hb1; have HF := Lib.hid hf4; have HP := Lib.hid hp
  have hI := hx
  unfold Wd.IsI at hI
  have e1 : x < 0 → IntKind.u64.wrap (-IntKind.u64.wrap x) = p := by intro h; rw [Wd.wrapU, Wd.wrapU]; unfold Wd.lo; omega
  have e2 : ¬ x < 0 → x = p := by intro h; omega
  have hp0 : 0 ≤ p ∧ p ≤ 9223372036854775808 := by omega
  have E1 := Lib.hid e1; have E2 := Lib.hid e2
  clear hbox hb1 hf4 e1 e2 hx hw1 hp
  by_cases hneg : x < 0
  all_goals
    go_enter Tryz.func59, Tryz.ntmps59
    go_wp2_with fail
    first | rw [E1.out hneg] | skip
    rw [← HW.out]
    go_loopw [3, 5] (fun u v wr => ∃ j : Nat, j ≤ 4 ∧ u = .int .u64 (Dd.qt p j) ∧ wr.ownsRow w1.heap.size 3 1 v j (row .i64 (Dd.lmb p) j) ∧ Below w1.heap.size w1 wr) (fun u _ _ => (intOf u).toNat)
    case atStart => exact ⟨0, Nat.zero_le _, (by rw [Dd.qt_zero]; try rw [← E2.out (by omega)]), World.ownsRow_nil _ _ _ _, Below.refl _ _⟩
    case round =>
      obtain ⟨j, hj, rfl, hown, hbr⟩ := hrel
      have HOW := Lib.hid hown; have HBR := Lib.hid hbr
      clear hown hbr
      have hq0 := Int.ediv_nonneg hp0.1 (Int.le_of_lt (Dd.S_pos j))
      have hqe : 0 ≤ Dd.qt p j ∧ Dd.qt p j ≤ 9223372036854775808 := by
        have h1 := Int.ediv_le_self (b := Dd.S j) hp0.1
        unfold Dd.qt; omega
      have hl : Dd.lmb p j = Dd.qt p j % 65536 := rfl
      have HL := Lib.hid hl; clear hl hq0
      by_cases hz : 0 < Dd.qt p j
      · have hj3 : j < 4 := by
          rcases (by omega : j < 4 ∨ j = 4) with h | h
          · exact h
          · subst h; unfold Dd.qt at hz; rw [Int.ediv_eq_zero_of_lt HF.out.1 HF.out.2] at hz; omega
        have hqs := Dd.qt_succ p j
        have HQ := Lib.hid hqs; clear hqs
        go_wp2_with (at_builtin; refine wpList_append_own _ rfl _ _ 39 rfl w1.heap.size 3 i0 (.int .i64 0) 1 8 Tryz.underlying39 hi0 hz0 hz1 hz2 rfl (by decide) _ _ _ rfl (HOW.out.alloc _) ⟨wr.heap.size, 0, none⟩ 1 1 [.int .i64 (Dd.qt p j % 65536)] rfl rfl (cells_one_new _ _ _) (one_oneCell _ _) (by unfold maxLen; omega) (by omega) (by have := HBR.out.size; simp; omega) ?_)
        intro v' w2 hown2 hgrow _
        have hb3 : Below w1.heap.size w1 w2 := (HBR.out.alloc HBR.out.size _).grown hgrow (by have := HBR.out.size; simp; omega) (own_block_le HOW.out)
        have H3 := Lib.hid (own_push hown2 HL.out.symm); have B3 := Lib.hid hb3
        clear hown2 hgrow hb3
        go_wp2_with fail
        go_roundw
        case rel => exact ⟨j + 1, by omega, by rw [HQ.out], H3.out, B3.out⟩
        case measure => simp [intOf]; omega
      · have hfj : Dd.Fits j p := ⟨hp0.1, by
          have h1 := Int.lt_ediv_add_one_mul_self p (Dd.S_pos j)
          unfold Dd.qt at hqe hz
          rw [show p / Dd.S j = 0 from by omega] at h1; omega⟩
        obtain ⟨A2, c2, rfl, hsl⟩ := Sl.of_own HOW.out
        have HS := Lib.hid hsl; have HTY := Lib.hid (Ty.of_own HOW.out); have HFJ := Lib.hid hfj
        clear hsl hfj
        go_wp2_with fail
        refine (ref3_make16 _ A2 j c2 p x _ HS.out HFJ.out HP.out.symm (fun _ => by unfold sg; first | rw [Int.sign_eq_neg_one_of_neg hneg] | rw [Int.sign_eq_one_of_pos (by omega)]) HTY.out).mono ?_
        rintro e w6 ⟨⟨A3, k3, c3, rfl, hk3, hnm⟩, hb6⟩
        have hb7 : Below w1.heap.size w1 w6 := HBR.out.trans (hb6.mono HBR.out.size)
        have hr2 : w6.heap[w.heap.size]? = some (.cells #[.int .i64 0, .slice none 0 0] 41 (0, 0)) := (hb7.block w.heap.size hsz).trans HX.out
        have q0 : w6.cell? ⟨w.heap.size, 0, none⟩ = some (.int .i64 0) := by simp [World.cell?, hr2]
        have q1 : w6.cell? ⟨w.heap.size, 1, none⟩ = some (.slice none 0 0) := by simp [World.cell?, hr2]
        have q2 : w6.frozen? ⟨w.heap.size, 0, none⟩ = false := by simp [World.frozen?, hr2]
        have q3 : w6.frozen? ⟨w.heap.size, 1, none⟩ = false := by simp [World.frozen?, hr2]
        have HN := Lib.hid hnm; have HR := Lib.hid hr2; have B3 := Lib.hid (HB1.out.trans (hb7.mono HB1.out.size))
        clear hnm hr2 hb7 hb6
        go_wp2_with fail
        refine bodyPost_ret (v := .agg #[.int .i64 (sg x), .slice A3 k3 c3]) (by simp [results, Tryz.results59, go_sem, q0, q1]) rfl ⟨⟨A3, k3, c3, rfl, by omega, ?_⟩, ?_⟩
        · exact (HN.out.set_ HR.out (by decide)).set_ (heap_setCell_same w6 w.heap.size 0 _ _ _ HR.out) (by decide)
        · exact (B3.out.setCell (p := ⟨w.heap.size, 0, none⟩) (Nat.le_refl _) _).setCell (p := ⟨w.heap.size, 1, none⟩) (Nat.le_refl _) _
end Go.Proofs.YtjdiilkljgljkaaGreatDoor
namespace Go.Proofs.YtjdiilkljgljkaaGreatDoor
set_option linter.unusedVariables false
set_option linter.unusedSimpArgs false
open Go.RowKit

namespace Dd
theorem mulSS (i : Nat) : 0 ≤ S i := Int.le_of_lt (S_pos i)
theorem fits_prt {k m : Nat} {p q : Int} (hp : 0 ≤ p) (hq : Fits m q) : Fits (k + m) (prt p q k) := by
  have h1 := S_pos k
  have e : p - qt p k * S k = p % S k := by
    have := Int.mul_ediv_add_emod p (S k)
    unfold qt; rw [Int.mul_comm]; omega
  have h2 := Int.emod_nonneg p (Int.ne_of_gt h1)
  have h3 := Int.emod_lt_of_pos p h1
  unfold Fits at *
  unfold prt
  rw [e, S_add]
  refine ⟨Int.mul_nonneg h2 hq.1, ?_⟩
  have h4 : p % S k * q ≤ S k * q := Int.mul_le_mul_of_nonneg_right (Int.le_of_lt h3) hq.1
  have h5 : S k * q < S k * S m := Int.mul_lt_mul_of_pos_left hq.2 h1
  omega
theorem prt_whole {n : Nat} {p q : Int} (hp : Fits n p) : prt p q n = p * q := by
  unfold prt qt
  rw [Int.ediv_eq_zero_of_lt hp.1 hp.2, Int.zero_mul, Int.sub_zero]
theorem kar_last {k m : Nat} {p q : Int} (hp : 0 ≤ p) (hq : Fits m q) : kar p q k m = lmb (prt p q (k + 1)) (k + m) := by
  have h1 := fits_prt (k := k) hp hq
  have h2 := fits_prt (k := k + 1) hp hq
  rw [show k + 1 + m = k + m + 1 from by omega] at h2
  have h3 := S_pos (k + m)
  unfold Fits at h2
  rw [S_succ] at h2
  have e3 : 0 ≤ qt (prt p q (k + 1)) (k + m) ∧ qt (prt p q (k + 1)) (k + m) < 65536 := ⟨Int.ediv_nonneg h2.1 (Int.le_of_lt h3), Int.ediv_lt_of_lt_mul h3 (by omega)⟩
  have e1 : qt (prt p q k) (k + m) = 0 := Int.ediv_eq_zero_of_lt h1.1 h1.2
  have e2 : qt q m = 0 := Int.ediv_eq_zero_of_lt hq.1 hq.2
  unfold kar lmb
  rw [e1, e2, Int.mul_zero]
  omega
def mid (x y : Int) (i j : Nat) : Nat → Int := fun k => if k < i + j then lmb (prt x y (i + 1)) k else lmb (prt x y i) k
theorem mid_zero (x y : Int) (i k : Nat) : lmb (prt x y i) k = mid x y i 0 k := by
  unfold mid; split
  · rw [prt_low x y (by omega)]
  · rfl
theorem mid_at (x y : Int) (i j : Nat) : mid x y i j (i + j) = lmb (prt x y i) (i + j) := by unfold mid; rw [if_neg (by omega)]
theorem mid_next (x y : Int) (i j : Nat) : lmb (prt x y (i + 1)) (i + j) = mid x y i (j + 1) (i + j) := by unfold mid; rw [if_pos (by omega)]
theorem mid_other (x y : Int) (i j k : Nat) (h : k ≠ i + j) : mid x y i j k = mid x y i (j + 1) k := by
  unfold mid
  by_cases h1 : k < i + j
  · rw [if_pos h1, if_pos (by omega)]
  · rw [if_neg h1, if_neg (by omega)]
theorem mid_rest {p q : Int} {i m k : Nat} (hp : 0 ≤ p) (hq : Fits m q) (h : k ≠ i + m) : mid p q i m k = lmb (prt p q (i + 1)) k := by
  unfold mid
  by_cases h1 : k < i + m
  · rw [if_pos h1]
  · rw [if_neg h1, lmb_beyond (fits_prt (k := i) hp hq) (by omega), lmb_beyond (fits_prt (k := i + 1) hp hq) (by omega)]
theorem kar_step2 (x y : Int) (i j : Nat) : (lmb (prt x y i) (i + j) + lmb x i * lmb y j + kar x y i j) % 65536 = lmb (prt x y (i + 1)) (i + j) ∧
    (lmb (prt x y i) (i + j) + lmb x i * lmb y j + kar x y i j) / 65536 = kar x y i (j + 1) := by
  have hk := isW_kar x y i j
  have h := kar_step x y i j hk
  have hp := isW_lt_mul (isW_lmb x i) (isW_lmb y j)
  have h1 := lmb_range (prt x y i) (i + j)
  have hk2 := h.2.2
  rw [Int.add_comm (lmb (prt x y i) (i + j))]
  refine ⟨h.1, ?_⟩
  have h2 := h.2.1
  unfold hi at h2
  unfold IsW at hk
  generalize lmb x i * lmb y j = u at *
  omega
end Dd

theorem below_drewN9 {B : Nat} {a w : World} (h : Below B a w) (n : Nat) : Below B a (w.drewN n) := ⟨h.os, h.tape, h.output, h.size, h.block⟩
theorem sg_mul (x y : Int) : sg x * sg y = sg (x * y) := by unfold sg; rw [Int.sign_mul]

set_option maxRecDepth 100000 in
set_option maxHeartbeats 4000000 in
theorem ref3_Mul (A A' : Option Addr) (n c m c' : Nat) (x y : Int) (w : World) (ha : Nm w A n c x) (hb : Nm w A' m c' y) (hn : n ≤ 50000) (hm : m ≤ 49999) :
    Calls Tryz.prog 32 #[.agg #[.int .i64 (sg x), .slice A n c], .agg #[.int .i64 (sg y), .slice A' m c']] w fun e w' => (∃ A2 k c2, e = .returned (.agg #[.int .i64 (sg (x * y)), .slice A2 k c2]) ∧ k ≤ n + m ∧ Nm w' A2 k c2 (x * y)) ∧ Below w.heap.size w w' := by
  obtain ⟨i0, hi0, hz0, hz1, hz2⟩ := info_parts info_int
  have hrx := sign_range x; have hry := sign_range y
  have hsm := sg_mul x y
  have hrs := sign_range (x * y)
  rw [← hsm] at hrs
  have HSM := Lib.hid hsm
  have HA := Lib.hid ha; have HB := Lib.hid hb
  have hb3 : ∀ (o1 o2 o3 : Obj), Below w.heap.size w (((w.alloc o1).alloc o2).alloc o3) := fun o1 o2 o3 => (((Below.refl w.heap.size w).alloc (Nat.le_refl _) _).alloc (by simp) _).alloc (by simp; omega) _
  have HB3 := Lib.hid hb3
  have hnm : ((x * y).natAbs : Int) = (x.natAbs : Int) * y.natAbs := by rw [Int.natAbs_mul]; exact Int.natCast_mul _ _
  obtain ⟨p, hp⟩ : ∃ p : Int, p = x.natAbs := ⟨_, rfl⟩
  obtain ⟨q, hq⟩ : ∃ q : Int, q = y.natAbs := ⟨_, rfl⟩
  have hfp : Dd.Dg n p := by rw [hp]; exact ha.2.1
  have hfq : Dd.Dg m q := by rw [hq]; exact hb.2.1
  rw [← hp, ← hq] at hnm
  have hmaxa := ha.1.max; have hmaxb := hb.1.max; have hcapa := ha.1.cap; have hcapb := hb.1.cap
  unfold maxLen at hmaxa hmaxb
  have HP := Lib.hid hp; have HQ := Lib.hid hq; have HNM := Lib.hid hnm; have HFP := Lib.hid hfp; have HFQ := Lib.hid hfq
  clear ha hb hb3 hsm hp hq hnm hfp hfq
  go_enter Tryz.func32, Tryz.ntmps32
  go_wp2_with fail
  have bx := Box.new w (.int .i64 (sg x)) (.slice A n c) (.int .i64 (sg y)) (.slice A' m c')
  have hbw := HB3.out (.cells #[.int .i64 (sg x), .slice A n c] 41) (.cells #[.int .i64 (sg y), .slice A' m c'] 41) (.cells #[.int .i64 0, .slice none 0 0] 41)
  generalize (((w.alloc (.cells #[.int .i64 (sg x), .slice A n c] 41)).alloc (.cells #[.int .i64 (sg y), .slice A' m c'] 41)).alloc (.cells #[.int .i64 0, .slice none 0 0] 41)) = w3 at *
  have BX := Lib.hid bx; have BW := Lib.hid hbw
  have NA := Lib.hid (HA.out.below hbw (Nat.le_refl _)); have NB := Lib.hid (HB.out.below hbw (Nat.le_refl _))
  clear bx hbw HA HB
  go_loopw [5, 6] (fun v i wr => ∃ k : Nat, k ≤ n + m ∧ i = .int .i64 k ∧ wr.ownsRow w3.heap.size 3 1 v k (row .i64 (Dd.lmb 0) k) ∧ Below w3.heap.size w3 wr) (fun _ i _ => n + m - (intOf i).toNat)
  case atStart => exact ⟨0, Nat.zero_le _, rfl, World.ownsRow_nil _ _ _ _, Below.refl _ _⟩
  case round =>
    obtain ⟨k, hk, rfl, hown, hbr⟩ := hrel
    have bxr := BX.out.below hbr (Nat.le_refl _)
    have c1 := bxr.c1; have d1 := bxr.d1
    have HOW := Lib.hid hown; have HBR := Lib.hid hbr
    clear hown hbr bxr
    by_cases hlt : k < n + m
    · go_wp2_with (at_builtin; refine wpList_append_own _ rfl _ _ 39 rfl w3.heap.size 3 i0 (.int .i64 0) 1 8 Tryz.underlying39 hi0 hz0 hz1 hz2 rfl (by decide) _ _ _ rfl (HOW.out.alloc _) ⟨wr.heap.size, 0, none⟩ 1 1 [.int .i64 0] rfl rfl (cells_one_new _ _ _) (one_oneCell _ _) (by unfold maxLen; omega) (by omega) (by have := HBR.out.size; simp; omega) ?_)
      intro v' w4 hown2 hgrow _
      have hb3 : Below w3.heap.size w3 w4 := (HBR.out.alloc HBR.out.size _).grown hgrow (by have := HBR.out.size; simp; omega) (own_block_le HOW.out)
      have H3 := Lib.hid (own_push hown2 (Dd.lmb_zero k).symm); have B3 := Lib.hid hb3
      clear hown2 hgrow hb3 c1 d1
      go_wp2_with fail
      go_roundw
      case rel => exact ⟨k + 1, by omega, by go_num, H3.out, B3.out⟩
      case measure => simp [intOf]; omega
    · obtain rfl : k = n + m := by omega
      obtain ⟨wo, rfl⟩ : ∃ wo : World, wo = wr := ⟨_, rfl⟩
      go_wp2_with fail
      go_loopw [7] (fun i wr => ∃ k : Nat, k ≤ n ∧ i = .int .i64 k ∧ wr.ownsRow w3.heap.size 3 1 u5 (n + m) (row .i64 (Dd.lmb (Dd.prt p q k)) (n + m)) ∧ Below w3.heap.size w3 wr) (fun i _ => n - (intOf i).toNat)
      case atStart => exact ⟨0, Nat.zero_le _, rfl, by rw [Dd.prt_zero]; exact HOW.out, HBR.out⟩
      case round =>
        clear HOW HBR c1 d1
        obtain ⟨k, hk, rfl, hown, hbr⟩ := hrel
        have bxr := BX.out.below hbr (Nat.le_refl _)
        have c1 := bxr.c1; have d1 := bxr.d1
        have HOW := Lib.hid hown; have HBR := Lib.hid hbr; have BXR := Lib.hid bxr
        clear hown hbr bxr
        by_cases hlt : k < n
        · obtain ⟨g, cg, hv, hg1, hg2⟩ := HOW.out.form (by omega)
          subst hv
          have hcg := (Sl.of_own HOW.out)
          have hcc : n + m ≤ cg ∧ cg ≤ 9223372036854775807 := by
            obtain ⟨A9, c9, hv9, hs9⟩ := hcg
            injection hv9 with _ _ e9
            subst e9
            exact ⟨hs9.cap, by have := hs9.max; unfold maxLen at this; omega⟩
          clear hcg hg2
          go_wp2_with fail
          obtain ⟨wo, rfl⟩ : ∃ wo : World, wo = wr := ⟨_, rfl⟩
          go_loopw [8, 9] (fun cr j wr => ∃ l : Nat, l ≤ m ∧ j = .int .i64 l ∧ cr = .int .i64 (Dd.kar p q k l) ∧ wr.ownsRow w3.heap.size 3 1 (.slice (some ⟨g, 0, none⟩) (n + m) cg) (n + m) (row .i64 (Dd.mid p q k l) (n + m)) ∧ Below w3.heap.size w3 wr) (fun _ j _ => m - (intOf j).toNat)
          case atStart => exact ⟨0, Nat.zero_le _, rfl, by rw [Dd.kar_zero], own_congr HOW.out (fun i _ => Dd.mid_zero p q k i), HBR.out⟩
          case round =>
            clear HOW HBR c1 d1 BXR
            obtain ⟨l, hl, rfl, rfl, hown, hbr⟩ := hrel
            have bxr := BX.out.below hbr (Nat.le_refl _)
            have c1 := bxr.c1; have d1 := bxr.d1
            have hna := NA.out.below hbr (Nat.le_refl _); have hnb := NB.out.below hbr (Nat.le_refl _)
            have hkr := Dd.isW_kar p q k l
            unfold Dd.IsW at hkr
            by_cases hlt2 : l < m
            · obtain ⟨ab, ao, rfl, halt, hac⟩ := hna.1.at_ (by omega)
              obtain ⟨bb, bo, rfl, hblt, hbc⟩ := hnb.1.at_ (by omega)
              have c2 : wr.cell? ⟨ab, ao + k, none⟩ = some (.int .i64 (Dd.lmb p k)) := by rw [HP.out]; exact hac k hlt
              have c3 : wr.cell? ⟨bb, bo + l, none⟩ = some (.int .i64 (Dd.lmb q l)) := by rw [HQ.out]; exact hbc l hlt2
              have c4 : wr.cell? ⟨g, k + l, none⟩ = some (.int .i64 (Dd.lmb (Dd.prt p q k) (k + l))) := by rw [← Dd.mid_at p q k l]; exact own_cell hown (by omega)
              have c5 : wr.frozen? ⟨g, k + l, none⟩ = false := World.ownsRow.frozenAt hown (k + l)
              have hst := Dd.kar_step2 p q k l
              have hpr := Dd.isW_lt_mul (Dd.isW_lmb p k) (Dd.isW_lmb q l)
              have r1 := Dd.lmb_range (Dd.prt p q k) (k + l)
              have r2 := Dd.lmb_range p k; have r3 := Dd.lmb_range q l
              have HOW := Lib.hid hown; have HBR := Lib.hid hbr; have HST := Lib.hid hst
              clear hown hbr bxr hna hnb hac hbc hst
              have s4 : (k : Int) + (l : Int) < (n : Int) + (m : Int) := by omega
              have s2 : (0 : Int) ≤ (k : Int) + (l : Int) := by omega
              go_wp2_with fail
              have s1 : IntKind.i64.wrap ((k : Int) + (l : Int)) = (k : Int) + (l : Int) := IntWalk.i64_in _ (by omega)
              have s3 : ((k : Int) + (l : Int)).toNat = k + l := by omega
              go_quiet (fail)
              clear s1 s3
              go_wp2_with fail
              go_roundw
              case rel => exact ⟨l + 1, by omega, by go_num, by rw [HST.out.2], own_set (own_drewN HOW.out nq) (by rw [HST.out.1]; exact Dd.mid_next p q k l) (fun i _ hne => Dd.mid_other p q k l i hne), (below_drewN9 HBR.out nq).setCell (p := ⟨g, k + l, none⟩) hg1 _⟩
              case measure => simp [intOf]; omega
            · obtain rfl : l = m := by omega
              have hz : Dd.lmb (Dd.prt p q k) (k + l) = 0 := Dd.lmb_beyond (Dd.fits_prt (k := k) HFP.out.1.1 HFQ.out.1) (Nat.le_refl _)
              have c4 : wr.cell? ⟨g, k + l, none⟩ = some (.int .i64 0) := by rw [← hz, ← Dd.mid_at p q k l]; exact own_cell hown (by omega)
              have c5 : wr.frozen? ⟨g, k + l, none⟩ = false := World.ownsRow.frozenAt hown (k + l)
              have hkl := Dd.kar_last (k := k) HFP.out.1.1 HFQ.out.1
              have HOW := Lib.hid hown; have HBR := Lib.hid hbr; have HKL := Lib.hid hkl
              clear hown hbr bxr hna hnb hz hkl
              go_wp2_with fail
              go_roundw
              case rel => exact ⟨k + 1, by omega, by go_num, own_set HOW.out HKL.out (fun i _ hne => Dd.mid_rest HFP.out.1.1 HFQ.out.1 hne), HBR.out.setCell (p := ⟨g, k + l, none⟩) hg1 _⟩
              case measure => simp [intOf]; omega
        · obtain rfl : k = n := by omega
          have hown := HOW.out
          rw [Dd.prt_whole HFP.out.1] at hown
          have hfit : Dd.Fits (k + m) (p * q) := by
            have := Dd.fits_prt (k := k) HFP.out.1.1 HFQ.out.1
            rw [Dd.prt_whole HFP.out.1] at this; exact this
          obtain ⟨A9, c9, hv9, hs9⟩ := Sl.of_own hown
          subst hv9
          have HS9 := Lib.hid hs9; have HT9 := Lib.hid (Ty.of_own hown); have HFT := Lib.hid hfit
          clear hown hs9 hfit HOW
          have c0 := BXR.out.c0; have d0 := BXR.out.d0
          have s1 : IntKind.i64.wrap (sg x * sg y) = sg x * sg y := IntWalk.i64_in _ (by omega)
          go_wp2_with fail
          refine (ref3_make16 _ A9 (k + m) c9 (p * q) (x * y) _ HS9.out HFT.out HNM.out (fun _ => HSM.out) HT9.out).mono ?_
          rintro e w6 ⟨⟨A3, k3, c3, rfl, hk3, hnm⟩, hb6⟩
          have hb7 : Below w3.heap.size w3 w6 := HBR.out.trans (hb6.mono HBR.out.size)
          have B6 := Lib.hid (BX.out.below hb7 (Nat.le_refl _))
          have q0 := B6.out.cell 0; have q1 := B6.out.cell 1; have q2 := B6.out.free 0; have q3 := B6.out.free 1
          have N6 := Lib.hid hnm; have D6 := Lib.hid (BW.out.trans (hb7.mono BW.out.size))
          clear hnm hb7 hb6 s1 c0 d0 c1 d1
          go_wp2_with fail
          refine bodyPost_ret (v := .agg #[.int .i64 (sg (x * y)), .slice A3 k3 c3]) (by simp [results, Tryz.results32, go_sem, q0, q1]) rfl ⟨⟨A3, k3, c3, rfl, hk3, B6.out.set2 N6.out⟩, ?_⟩
          exact (D6.out.setCell (p := ⟨w.heap.size + 1 + 1, 0, none⟩) (by simp; omega) _).setCell (p := ⟨w.heap.size + 1 + 1, 1, none⟩) (by simp; omega) _
end Go.Proofs.YtjdiilkljgljkaaGreatDoor
namespace Go.Proofs.YtjdiilkljgljkaaGreatDoor
set_option linter.unusedVariables false
set_option linter.unusedSimpArgs false
open Go.RowKit Wd

theorem det_ref (ax ay bx b_ cx cy : Int) : bx * cy - b_ * cx - (ax * cy - ay * cx) + (ax * b_ - ay * bx) = det ax ay bx b_ cx cy := by unfold det; grind
theorem ref3_AddZ (A A' : Option Addr) (n c m c' : Nat) (x y z : Int) (hz : x + y = z) (w : World) (ha : Nm w A n c x) (hb : Nm w A' m c' y) (hn : n ≤ 99999) (hm : m ≤ 99999) :
    Calls Tryz.prog 34 #[.agg #[.int .i64 (sg x), .slice A n c], .agg #[.int .i64 (sg y), .slice A' m c']] w fun e w' => (∃ A2 k c2, e = .returned (.agg #[.int .i64 (sg z), .slice A2 k c2]) ∧ k ≤ max n m + 1 ∧ Nm w' A2 k c2 z) ∧ Below w.heap.size w w' := by
  subst hz; exact ref3_Add A A' n c m c' x y w ha hb hn hm
theorem ref3_SubZ (A A' : Option Addr) (n c m c' : Nat) (x y z : Int) (hz : x - y = z) (w : World) (ha : Nm w A n c x) (hb : Nm w A' m c' y) (hn : n ≤ 99999) (hm : m ≤ 99999) :
    Calls Tryz.prog 35 #[.agg #[.int .i64 (sg x), .slice A n c], .agg #[.int .i64 (sg y), .slice A' m c']] w fun e w' => (∃ A2 k c2, e = .returned (.agg #[.int .i64 (sg z), .slice A2 k c2]) ∧ k ≤ max n m + 1 ∧ Nm w' A2 k c2 z) ∧ Below w.heap.size w w' := by
  subst hz; exact ref3_Sub A A' n c m c' x y w ha hb hn hm
theorem ref3_MulZ (A A' : Option Addr) (n c m c' : Nat) (x y z : Int) (hz : x * y = z) (w : World) (ha : Nm w A n c x) (hb : Nm w A' m c' y) (hn : n ≤ 50000) (hm : m ≤ 49999) :
    Calls Tryz.prog 32 #[.agg #[.int .i64 (sg x), .slice A n c], .agg #[.int .i64 (sg y), .slice A' m c']] w fun e w' => (∃ A2 k c2, e = .returned (.agg #[.int .i64 (sg z), .slice A2 k c2]) ∧ k ≤ n + m ∧ Nm w' A2 k c2 z) ∧ Below w.heap.size w w' := by
  subst hz; exact ref3_Mul A A' n c m c' x y w ha hb hn hm
set_option maxHeartbeats 1000000 in
theorem ref6_product (a b : Int) (ha : IsI a) (hb : IsI b) (w : World) :
    Calls Tryz.prog 92 #[.int .i64 a, .int .i64 b] w fun e w' => (∃ A k c, e = .returned (.agg #[.int .i64 (sg (a * b)), .slice A k c]) ∧ k ≤ 8 ∧ Nm w' A k c (a * b)) ∧ Below w.heap.size w w' := by
  have HB0 := Lib.hid (Below.refl w.heap.size w)
  go_enter Tryz.func92, Tryz.ntmps92
  go_wp2_with fail
  have B : Below w.heap.size w (w.alloc (.cells #[.int .i64 0, .slice none 0 0] 41)) := (HB0.out.alloc HB0.out.size _)
  have C : Below w.heap.size w (w.alloc (.cells #[.int .i64 0, .slice none 0 0] 41)) := ((Below.refl w.heap.size w).alloc (Nat.le_refl _) _)
  have X0 : Bx (w.alloc (.cells #[.int .i64 0, .slice none 0 0] 41)) (w.heap.size) #[.int .i64 0, .slice none 0 0] 41 := by simpa using (Bx.new w #[.int .i64 0, .slice none 0 0] 41)
  have HB1 := Lib.hid B
  have FR_1 := Lib.hid X0
  clear B C X0 HB0 
  generalize (w.alloc (.cells #[.int .i64 0, .slice none 0 0] 41)) = w1 at *
  skip
  refine (ref3_Int a ha _).mono ?_
  rintro e w2 ⟨⟨A1, k1, c1, rfl, b1, N1⟩, B⟩
  have HB2 := Lib.hid (HB1.out.trans (B.mono HB1.out.size))
  have FR_2 := Lib.hid (FR_1.out.below B (Nat.le_refl _))
  have FA_2 := Lib.hid N1
  clear B N1 HB1 FR_1
  go_wp2_with fail
  refine (ref3_Int b hb _).mono ?_
  rintro e w3 ⟨⟨A2, k2, c2, rfl, b2, N2⟩, B⟩
  have HB3 := Lib.hid (HB2.out.trans (B.mono HB2.out.size))
  have FR_3 := Lib.hid (FR_2.out.below B (Nat.le_refl _))
  have FA_3 := Lib.hid (FA_2.out.below B (Nat.le_refl _))
  have FB_3 := Lib.hid N2
  clear B N2 HB2 FR_2 FA_2
  go_wp2_with fail
  refine (ref3_Mul _ _ _ _ _ _ _ _ _ FA_3.out FB_3.out (by omega) (by omega)).mono ?_
  rintro e w4 ⟨⟨A3, k3, c3, rfl, b3, N3⟩, B⟩
  have HB4 := Lib.hid (HB3.out.trans (B.mono HB3.out.size))
  have FR_4 := Lib.hid (FR_3.out.below B (Nat.le_refl _))
  have FA_4 := Lib.hid (FA_3.out.below B (Nat.le_refl _))
  have FB_4 := Lib.hid (FB_3.out.below B (Nat.le_refl _))
  have FC_4 := Lib.hid N3
  clear B N3 HB3 FR_3 FA_3 FB_3
  have q0 := FR_4.out.cell 0 (v := .int .i64 0) rfl; have q1 := FR_4.out.cell 1 (v := .slice none 0 0) rfl; have z0 := FR_4.out.free 0; have z1 := FR_4.out.free 1
  go_wp2_with fail
  have r0 := FR_4.out
  have r1 := r0.set 0 (.int .i64 (sg (a * b)))
  refine bodyPost_ret (v := .agg #[.int .i64 (sg (a * b)), .slice A3 k3 c3]) (by simp [results, Tryz.results92, go_sem, q0, q1]) rfl ⟨⟨A3, k3, c3, rfl, by omega, ((FC_4.out.setB r0 (by decide)).setB r1 (by decide))⟩, ?_⟩
  exact ((HB4.out.setCell (p := ⟨w.heap.size, 0, none⟩) (by simp <;> omega) _).setCell (p := ⟨w.heap.size, 1, none⟩) (by simp <;> omega) _)

set_option maxHeartbeats 1000000 in
theorem ref6_minor (ax ay bx b_ : Int) (h1 : IsI ax) (h2 : IsI ay) (h3 : IsI bx) (h4 : IsI b_) (w : World) :
    Calls Tryz.prog 57 #[.agg #[.int .i64 ax, .int .i64 ay], .agg #[.int .i64 bx, .int .i64 b_]] w fun e w' => (∃ A k c, e = .returned (.agg #[.int .i64 (sg (ax * b_ - ay * bx)), .slice A k c]) ∧ k ≤ 9 ∧ Nm w' A k c (ax * b_ - ay * bx)) ∧ Below w.heap.size w w' := by
  have HB0 := Lib.hid (Below.refl w.heap.size w)
  go_enter Tryz.func57, Tryz.ntmps57
  go_wp2_with fail
  have B : Below w.heap.size w (((w.alloc (.cells #[.int .i64 ax, .int .i64 ay] 23)).alloc (.cells #[.int .i64 bx, .int .i64 b_] 23)).alloc (.cells #[.int .i64 0, .slice none 0 0] 41)) := (((HB0.out.alloc HB0.out.size _).alloc (HB0.out.alloc HB0.out.size _).size _).alloc ((HB0.out.alloc HB0.out.size _).alloc (HB0.out.alloc HB0.out.size _).size _).size _)
  have C : Below w.heap.size w (((w.alloc (.cells #[.int .i64 ax, .int .i64 ay] 23)).alloc (.cells #[.int .i64 bx, .int .i64 b_] 23)).alloc (.cells #[.int .i64 0, .slice none 0 0] 41)) := ((((Below.refl w.heap.size w).alloc (Nat.le_refl _) _).alloc (by simp; try omega) _).alloc (by simp; try omega) _)
  have X0 : Bx (((w.alloc (.cells #[.int .i64 ax, .int .i64 ay] 23)).alloc (.cells #[.int .i64 bx, .int .i64 b_] 23)).alloc (.cells #[.int .i64 0, .slice none 0 0] 41)) (w.heap.size) #[.int .i64 ax, .int .i64 ay] 23 := by simpa using (((Bx.new w #[.int .i64 ax, .int .i64 ay] 23).alloc _).alloc _)
  have X1 : Bx (((w.alloc (.cells #[.int .i64 ax, .int .i64 ay] 23)).alloc (.cells #[.int .i64 bx, .int .i64 b_] 23)).alloc (.cells #[.int .i64 0, .slice none 0 0] 41)) (w.heap.size + 1) #[.int .i64 bx, .int .i64 b_] 23 := by simpa using ((Bx.new (w.alloc (.cells #[.int .i64 ax, .int .i64 ay] 23)) #[.int .i64 bx, .int .i64 b_] 23).alloc _)
  have X2 : Bx (((w.alloc (.cells #[.int .i64 ax, .int .i64 ay] 23)).alloc (.cells #[.int .i64 bx, .int .i64 b_] 23)).alloc (.cells #[.int .i64 0, .slice none 0 0] 41)) (w.heap.size + 1 + 1) #[.int .i64 0, .slice none 0 0] 41 := by simpa using (Bx.new ((w.alloc (.cells #[.int .i64 ax, .int .i64 ay] 23)).alloc (.cells #[.int .i64 bx, .int .i64 b_] 23)) #[.int .i64 0, .slice none 0 0] 41)
  have HB1 := Lib.hid B
  have FP_1 := Lib.hid X0
  have FQ_1 := Lib.hid X1
  have FR_1 := Lib.hid X2
  clear B C X0 X1 X2 HB0 
  generalize (((w.alloc (.cells #[.int .i64 ax, .int .i64 ay] 23)).alloc (.cells #[.int .i64 bx, .int .i64 b_] 23)).alloc (.cells #[.int .i64 0, .slice none 0 0] 41)) = w1 at *
  have RB1 := Lib.hid (below_drew0 w1)
  have QS1 := Lib.hid (show w1.cell? ⟨w.heap.size, 0, none⟩ = some (.int .i64 ax) ∧ w1.cell? ⟨w.heap.size, 1, none⟩ = some (.int .i64 ay) ∧ w1.cell? ⟨w.heap.size + 1, 0, none⟩ = some (.int .i64 bx) ∧ w1.cell? ⟨w.heap.size + 1, 1, none⟩ = some (.int .i64 b_) from ⟨FP_1.out.cell 0 (v := .int .i64 ax) rfl, FP_1.out.cell 1 (v := .int .i64 ay) rfl, FQ_1.out.cell 0 (v := .int .i64 bx) rfl, FQ_1.out.cell 1 (v := .int .i64 b_) rfl⟩)
  have QF1 := Lib.hid (show ∀ w', Below w1.heap.size w1 w' → w'.cell? ⟨w.heap.size, 0, none⟩ = some (.int .i64 ax) ∧ w'.cell? ⟨w.heap.size, 1, none⟩ = some (.int .i64 ay) ∧ w'.cell? ⟨w.heap.size + 1, 0, none⟩ = some (.int .i64 bx) ∧ w'.cell? ⟨w.heap.size + 1, 1, none⟩ = some (.int .i64 b_) from fun w' hb => ⟨(FP_1.out.below hb (Nat.le_refl _)).cell 0 (v := .int .i64 ax) rfl, (FP_1.out.below hb (Nat.le_refl _)).cell 1 (v := .int .i64 ay) rfl, (FQ_1.out.below hb (Nat.le_refl _)).cell 0 (v := .int .i64 bx) rfl, (FQ_1.out.below hb (Nat.le_refl _)).cell 1 (v := .int .i64 b_) rfl⟩)
  go_region_held3 (fun w' => w'.cell? ⟨w.heap.size, 0, none⟩ = some (.int .i64 ax) ∧ w'.cell? ⟨w.heap.size, 1, none⟩ = some (.int .i64 ay) ∧ w'.cell? ⟨w.heap.size + 1, 0, none⟩ = some (.int .i64 bx) ∧ w'.cell? ⟨w.heap.size + 1, 1, none⟩ = some (.int .i64 b_)) (first | with_reducible exact QF1.out _ RB4.out | with_reducible exact QF1.out _ RB3.out | with_reducible exact QF1.out _ RB2.out | with_reducible exact QS1.out | with_reducible exact QF1.out _ RB1.out | with_reducible exact ⟨keep_set (keep_set ((QF1.out _ RB4.out).1) (by simp <;> omega)) (by simp <;> omega), keep_set (keep_set ((QF1.out _ RB4.out).2.1) (by simp <;> omega)) (by simp <;> omega), keep_set (keep_set ((QF1.out _ RB4.out).2.2.1) (by simp <;> omega)) (by simp <;> omega), keep_set (keep_set ((QF1.out _ RB4.out).2.2.2) (by simp <;> omega)) (by simp <;> omega)⟩) (first
      | (go_at_call 35; have := RB3; clear this; refine (ref3_Sub P0 P1 p0 g0 p1 g1 _ _ _ RM0_3.out RM1_3.out (by omega) (by omega)).mono ?_; rintro e w4 ⟨⟨P2, p2, g2, rfl, b2, N2⟩, B⟩; have RB4 := Lib.hid (RB3.out.trans (B.mono RB3.out.size)); have RM0_4 := Lib.hid (RM0_3.out.below B (Nat.le_refl _)); have RM1_4 := Lib.hid (RM1_3.out.below B (Nat.le_refl _)); have RM2_4 := Lib.hid N2; clear B N2; have q0 := (FR_1.out.below RB4.out (Nat.le_refl _)).cell 0 (v := .int .i64 0) rfl; have q1 := (FR_1.out.below RB4.out (Nat.le_refl _)).cell 1 (v := .slice none 0 0) rfl; have z0 := (FR_1.out.below RB4.out (Nat.le_refl _)).free 0; have z1 := (FR_1.out.below RB4.out (Nat.le_refl _)).free 1)
      | (go_at_call 92; have := RB2; clear this; refine (ref6_product ay bx h2 h3 _).mono ?_; rintro e w3 ⟨⟨P1, p1, g1, rfl, b1, N1⟩, B⟩; have RB3 := Lib.hid (RB2.out.trans (B.mono RB2.out.size)); have RM0_3 := Lib.hid (RM0_2.out.below B (Nat.le_refl _)); have RM1_3 := Lib.hid N1; clear B N1)
      | (go_at_call 92; have := RB1; clear this; refine (ref6_product ax b_ h1 h4 _).mono ?_; rintro e w2 ⟨⟨P0, p0, g0, rfl, b0, N0⟩, B⟩; have RB2 := Lib.hid (RB1.out.trans (B.mono RB1.out.size)); have RM0_2 := Lib.hid N0; clear B N0))
  have FP_4 := Lib.hid (FP_1.out.below RB4.out (Nat.le_refl _))
  have FQ_4 := Lib.hid (FQ_1.out.below RB4.out (Nat.le_refl _))
  have FR_4 := Lib.hid (FR_1.out.below RB4.out (Nat.le_refl _))
  have HB4 := Lib.hid (HB1.out.trans (RB4.out.mono HB1.out.size))
  clear HB1 FP_1 FQ_1 FR_1
  go_wp2_with fail
  have r0 := FR_4.out
  have r1 := r0.set 0 (.int .i64 (sg (ax * b_ - ay * bx)))
  refine bodyPost_ret (v := .agg #[.int .i64 (sg (ax * b_ - ay * bx)), .slice P2 p2 g2]) (by simp [results, Tryz.results57, go_sem, q0, q1]) rfl ⟨⟨P2, p2, g2, rfl, by omega, ((RM2_4.out.setB r0 (by decide)).setB r1 (by decide))⟩, ?_⟩
  exact ((HB4.out.setCell (p := ⟨w.heap.size + 1 + 1, 0, none⟩) (by simp <;> omega) _).setCell (p := ⟨w.heap.size + 1 + 1, 1, none⟩) (by simp <;> omega) _)

set_option maxHeartbeats 1000000 in
theorem ref6_Value (ax ay bx b_ cx cy : Int) (hp : P3 ax ay bx b_ cx cy) (w : World) :
    Calls Tryz.prog 31 #[.agg #[.int .i64 ax, .int .i64 ay], .agg #[.int .i64 bx, .int .i64 b_], .agg #[.int .i64 cx, .int .i64 cy]] w fun e w' => (∃ A k c, e = .returned (.agg #[.int .i64 (sg (det ax ay bx b_ cx cy)), .slice A k c]) ∧ k ≤ 11 ∧ Nm w' A k c (det ax ay bx b_ cx cy)) ∧ Below w.heap.size w w' := by
  have HB0 := Lib.hid (Below.refl w.heap.size w)
  go_enter Tryz.func31, Tryz.ntmps31
  go_wp2_with fail
  have B : Below w.heap.size w ((((w.alloc (.cells #[.int .i64 ax, .int .i64 ay] 23)).alloc (.cells #[.int .i64 bx, .int .i64 b_] 23)).alloc (.cells #[.int .i64 cx, .int .i64 cy] 23)).alloc (.cells #[.int .i64 0, .slice none 0 0] 41)) := ((((HB0.out.alloc HB0.out.size _).alloc (HB0.out.alloc HB0.out.size _).size _).alloc ((HB0.out.alloc HB0.out.size _).alloc (HB0.out.alloc HB0.out.size _).size _).size _).alloc (((HB0.out.alloc HB0.out.size _).alloc (HB0.out.alloc HB0.out.size _).size _).alloc ((HB0.out.alloc HB0.out.size _).alloc (HB0.out.alloc HB0.out.size _).size _).size _).size _)
  have C : Below w.heap.size w ((((w.alloc (.cells #[.int .i64 ax, .int .i64 ay] 23)).alloc (.cells #[.int .i64 bx, .int .i64 b_] 23)).alloc (.cells #[.int .i64 cx, .int .i64 cy] 23)).alloc (.cells #[.int .i64 0, .slice none 0 0] 41)) := (((((Below.refl w.heap.size w).alloc (Nat.le_refl _) _).alloc (by simp; try omega) _).alloc (by simp; try omega) _).alloc (by simp; try omega) _)
  have X0 : Bx ((((w.alloc (.cells #[.int .i64 ax, .int .i64 ay] 23)).alloc (.cells #[.int .i64 bx, .int .i64 b_] 23)).alloc (.cells #[.int .i64 cx, .int .i64 cy] 23)).alloc (.cells #[.int .i64 0, .slice none 0 0] 41)) (w.heap.size) #[.int .i64 ax, .int .i64 ay] 23 := by simpa using ((((Bx.new w #[.int .i64 ax, .int .i64 ay] 23).alloc _).alloc _).alloc _)
  have X1 : Bx ((((w.alloc (.cells #[.int .i64 ax, .int .i64 ay] 23)).alloc (.cells #[.int .i64 bx, .int .i64 b_] 23)).alloc (.cells #[.int .i64 cx, .int .i64 cy] 23)).alloc (.cells #[.int .i64 0, .slice none 0 0] 41)) (w.heap.size + 1) #[.int .i64 bx, .int .i64 b_] 23 := by simpa using (((Bx.new (w.alloc (.cells #[.int .i64 ax, .int .i64 ay] 23)) #[.int .i64 bx, .int .i64 b_] 23).alloc _).alloc _)
  have X2 : Bx ((((w.alloc (.cells #[.int .i64 ax, .int .i64 ay] 23)).alloc (.cells #[.int .i64 bx, .int .i64 b_] 23)).alloc (.cells #[.int .i64 cx, .int .i64 cy] 23)).alloc (.cells #[.int .i64 0, .slice none 0 0] 41)) (w.heap.size + 1 + 1) #[.int .i64 cx, .int .i64 cy] 23 := by simpa using ((Bx.new ((w.alloc (.cells #[.int .i64 ax, .int .i64 ay] 23)).alloc (.cells #[.int .i64 bx, .int .i64 b_] 23)) #[.int .i64 cx, .int .i64 cy] 23).alloc _)
  have X3 : Bx ((((w.alloc (.cells #[.int .i64 ax, .int .i64 ay] 23)).alloc (.cells #[.int .i64 bx, .int .i64 b_] 23)).alloc (.cells #[.int .i64 cx, .int .i64 cy] 23)).alloc (.cells #[.int .i64 0, .slice none 0 0] 41)) (w.heap.size + 1 + 1 + 1) #[.int .i64 0, .slice none 0 0] 41 := by simpa using (Bx.new (((w.alloc (.cells #[.int .i64 ax, .int .i64 ay] 23)).alloc (.cells #[.int .i64 bx, .int .i64 b_] 23)).alloc (.cells #[.int .i64 cx, .int .i64 cy] 23)) #[.int .i64 0, .slice none 0 0] 41)
  have HB1 := Lib.hid B
  have FP_1 := Lib.hid X0
  have FQ_1 := Lib.hid X1
  have FT_1 := Lib.hid X2
  have FR_1 := Lib.hid X3
  clear B C X0 X1 X2 X3 HB0 
  generalize ((((w.alloc (.cells #[.int .i64 ax, .int .i64 ay] 23)).alloc (.cells #[.int .i64 bx, .int .i64 b_] 23)).alloc (.cells #[.int .i64 cx, .int .i64 cy] 23)).alloc (.cells #[.int .i64 0, .slice none 0 0] 41)) = w1 at *
  have RB1 := Lib.hid (below_drew0 w1)
  have QS1 := Lib.hid (show w1.cell? ⟨w.heap.size, 0, none⟩ = some (.int .i64 ax) ∧ w1.cell? ⟨w.heap.size, 1, none⟩ = some (.int .i64 ay) ∧ w1.cell? ⟨w.heap.size + 1, 0, none⟩ = some (.int .i64 bx) ∧ w1.cell? ⟨w.heap.size + 1, 1, none⟩ = some (.int .i64 b_) ∧ w1.cell? ⟨w.heap.size + 1 + 1, 0, none⟩ = some (.int .i64 cx) ∧ w1.cell? ⟨w.heap.size + 1 + 1, 1, none⟩ = some (.int .i64 cy) from ⟨FP_1.out.cell 0 (v := .int .i64 ax) rfl, FP_1.out.cell 1 (v := .int .i64 ay) rfl, FQ_1.out.cell 0 (v := .int .i64 bx) rfl, FQ_1.out.cell 1 (v := .int .i64 b_) rfl, FT_1.out.cell 0 (v := .int .i64 cx) rfl, FT_1.out.cell 1 (v := .int .i64 cy) rfl⟩)
  have QF1 := Lib.hid (show ∀ w', Below w1.heap.size w1 w' → w'.cell? ⟨w.heap.size, 0, none⟩ = some (.int .i64 ax) ∧ w'.cell? ⟨w.heap.size, 1, none⟩ = some (.int .i64 ay) ∧ w'.cell? ⟨w.heap.size + 1, 0, none⟩ = some (.int .i64 bx) ∧ w'.cell? ⟨w.heap.size + 1, 1, none⟩ = some (.int .i64 b_) ∧ w'.cell? ⟨w.heap.size + 1 + 1, 0, none⟩ = some (.int .i64 cx) ∧ w'.cell? ⟨w.heap.size + 1 + 1, 1, none⟩ = some (.int .i64 cy) from fun w' hb => ⟨(FP_1.out.below hb (Nat.le_refl _)).cell 0 (v := .int .i64 ax) rfl, (FP_1.out.below hb (Nat.le_refl _)).cell 1 (v := .int .i64 ay) rfl, (FQ_1.out.below hb (Nat.le_refl _)).cell 0 (v := .int .i64 bx) rfl, (FQ_1.out.below hb (Nat.le_refl _)).cell 1 (v := .int .i64 b_) rfl, (FT_1.out.below hb (Nat.le_refl _)).cell 0 (v := .int .i64 cx) rfl, (FT_1.out.below hb (Nat.le_refl _)).cell 1 (v := .int .i64 cy) rfl⟩)
  go_region_held3 (fun w' => w'.cell? ⟨w.heap.size, 0, none⟩ = some (.int .i64 ax) ∧ w'.cell? ⟨w.heap.size, 1, none⟩ = some (.int .i64 ay) ∧ w'.cell? ⟨w.heap.size + 1, 0, none⟩ = some (.int .i64 bx) ∧ w'.cell? ⟨w.heap.size + 1, 1, none⟩ = some (.int .i64 b_) ∧ w'.cell? ⟨w.heap.size + 1 + 1, 0, none⟩ = some (.int .i64 cx) ∧ w'.cell? ⟨w.heap.size + 1 + 1, 1, none⟩ = some (.int .i64 cy)) (first | with_reducible exact QF1.out _ RB6.out | with_reducible exact QF1.out _ RB5.out | with_reducible exact QF1.out _ RB4.out | with_reducible exact QF1.out _ RB3.out | with_reducible exact QF1.out _ RB2.out | with_reducible exact QS1.out | with_reducible exact QF1.out _ RB1.out | with_reducible exact ⟨keep_set (keep_set ((QF1.out _ RB6.out).1) (by simp <;> omega)) (by simp <;> omega), keep_set (keep_set ((QF1.out _ RB6.out).2.1) (by simp <;> omega)) (by simp <;> omega), keep_set (keep_set ((QF1.out _ RB6.out).2.2.1) (by simp <;> omega)) (by simp <;> omega), keep_set (keep_set ((QF1.out _ RB6.out).2.2.2.1) (by simp <;> omega)) (by simp <;> omega), keep_set (keep_set ((QF1.out _ RB6.out).2.2.2.2.1) (by simp <;> omega)) (by simp <;> omega), keep_set (keep_set ((QF1.out _ RB6.out).2.2.2.2.2) (by simp <;> omega)) (by simp <;> omega)⟩) (first
      | (go_at_call 34; have := RB5; clear this; refine (ref3_AddZ P2 P3 p2 g2 p3 g3 _ _ _ (det_ref ax ay bx b_ cx cy) _ RM2_5.out RM3_5.out (by omega) (by omega)).mono ?_; rintro e w6 ⟨⟨P4, p4, g4, rfl, b4, N4⟩, B⟩; have RB6 := Lib.hid (RB5.out.trans (B.mono RB5.out.size)); have RM0_6 := Lib.hid (RM0_5.out.below B (Nat.le_refl _)); have RM1_6 := Lib.hid (RM1_5.out.below B (Nat.le_refl _)); have RM2_6 := Lib.hid (RM2_5.out.below B (Nat.le_refl _)); have RM3_6 := Lib.hid (RM3_5.out.below B (Nat.le_refl _)); have RM4_6 := Lib.hid N4; clear B N4; have q0 := (FR_1.out.below RB6.out (Nat.le_refl _)).cell 0 (v := .int .i64 0) rfl; have q1 := (FR_1.out.below RB6.out (Nat.le_refl _)).cell 1 (v := .slice none 0 0) rfl; have z0 := (FR_1.out.below RB6.out (Nat.le_refl _)).free 0; have z1 := (FR_1.out.below RB6.out (Nat.le_refl _)).free 1)
      | (go_at_call 57; have := RB4; clear this; refine (ref6_minor ax ay bx b_ hp.a hp.b hp.c hp.d _).mono ?_; rintro e w5 ⟨⟨P3, p3, g3, rfl, b3, N3⟩, B⟩; have RB5 := Lib.hid (RB4.out.trans (B.mono RB4.out.size)); have RM0_5 := Lib.hid (RM0_4.out.below B (Nat.le_refl _)); have RM1_5 := Lib.hid (RM1_4.out.below B (Nat.le_refl _)); have RM2_5 := Lib.hid (RM2_4.out.below B (Nat.le_refl _)); have RM3_5 := Lib.hid N3; clear B N3)
      | (go_at_call 35; have := RB3; clear this; refine (ref3_Sub P0 P1 p0 g0 p1 g1 _ _ _ RM0_3.out RM1_3.out (by omega) (by omega)).mono ?_; rintro e w4 ⟨⟨P2, p2, g2, rfl, b2, N2⟩, B⟩; have RB4 := Lib.hid (RB3.out.trans (B.mono RB3.out.size)); have RM0_4 := Lib.hid (RM0_3.out.below B (Nat.le_refl _)); have RM1_4 := Lib.hid (RM1_3.out.below B (Nat.le_refl _)); have RM2_4 := Lib.hid N2; clear B N2)
      | (go_at_call 57; have := RB2; clear this; refine (ref6_minor ax ay cx cy hp.a hp.b hp.e hp.f _).mono ?_; rintro e w3 ⟨⟨P1, p1, g1, rfl, b1, N1⟩, B⟩; have RB3 := Lib.hid (RB2.out.trans (B.mono RB2.out.size)); have RM0_3 := Lib.hid (RM0_2.out.below B (Nat.le_refl _)); have RM1_3 := Lib.hid N1; clear B N1)
      | (go_at_call 57; have := RB1; clear this; refine (ref6_minor bx b_ cx cy hp.c hp.d hp.e hp.f _).mono ?_; rintro e w2 ⟨⟨P0, p0, g0, rfl, b0, N0⟩, B⟩; have RB2 := Lib.hid (RB1.out.trans (B.mono RB1.out.size)); have RM0_2 := Lib.hid N0; clear B N0))
  have FP_6 := Lib.hid (FP_1.out.below RB6.out (Nat.le_refl _))
  have FQ_6 := Lib.hid (FQ_1.out.below RB6.out (Nat.le_refl _))
  have FT_6 := Lib.hid (FT_1.out.below RB6.out (Nat.le_refl _))
  have FR_6 := Lib.hid (FR_1.out.below RB6.out (Nat.le_refl _))
  have HB6 := Lib.hid (HB1.out.trans (RB6.out.mono HB1.out.size))
  clear HB1 FP_1 FQ_1 FT_1 FR_1
  go_wp2_with fail
  have r0 := FR_6.out
  have r1 := r0.set 0 (.int .i64 (sg (det ax ay bx b_ cx cy)))
  refine bodyPost_ret (v := .agg #[.int .i64 (sg (det ax ay bx b_ cx cy)), .slice P4 p4 g4]) (by simp [results, Tryz.results31, go_sem, q0, q1]) rfl ⟨⟨P4, p4, g4, rfl, by omega, ((RM4_6.out.setB r0 (by decide)).setB r1 (by decide))⟩, ?_⟩
  exact ((HB6.out.setCell (p := ⟨w.heap.size + 1 + 1 + 1, 0, none⟩) (by simp <;> omega) _).setCell (p := ⟨w.heap.size + 1 + 1 + 1, 1, none⟩) (by simp <;> omega) _)

set_option maxHeartbeats 1000000 in
theorem ref6_Sign (ax ay bx b_ cx cy : Int) (hp : P3 ax ay bx b_ cx cy) (w : World) :
    Calls Tryz.prog 12 #[.agg #[.int .i64 ax, .int .i64 ay], .agg #[.int .i64 bx, .int .i64 b_], .agg #[.int .i64 cx, .int .i64 cy]] w fun e w' => e = .returned (.int .i64 (sg (det ax ay bx b_ cx cy))) ∧ Below w.heap.size w w' := by
  have HB0 := Lib.hid (Below.refl w.heap.size w)
  have hfd : ∀ (s : Int) (V : Option Addr) (k c : Nat) (w : World), (Instr.field 41 (.agg #[.int .i64 s, .slice V k c]) 0).run Tryz.prog w = .ok (.int .i64 s) w := fun _ _ _ _ _ => by kernel_rfl
  go_enter Tryz.func12, Tryz.ntmps12
  go_wp2_with fail
  refine (ref6_Value _ _ _ _ _ _ hp _).mono ?_
  rintro e w1 ⟨⟨A1, k1, c1, rfl, b1, N1⟩, B⟩
  have HB1 := Lib.hid ((((HB0.out.alloc HB0.out.size _).alloc (HB0.out.alloc HB0.out.size _).size _).alloc ((HB0.out.alloc HB0.out.size _).alloc (HB0.out.alloc HB0.out.size _).size _).size _).trans (B.mono (((HB0.out.alloc HB0.out.size _).alloc (HB0.out.alloc HB0.out.size _).size _).alloc ((HB0.out.alloc HB0.out.size _).alloc (HB0.out.alloc HB0.out.size _).size _).size _).size))
  clear B  HB0
  clear N1
  go_wp2_with fail
  go_ret
  exact ⟨rfl, HB1.out⟩

end Go.Proofs.YtjdiilkljgljkaaGreatDoor
namespace Go.Proofs.YtjdiilkljgljkaaGreatDoor
set_option linter.unusedVariables false
set_option linter.unusedSimpArgs false
open Go.RowKit Wd

theorem getO_of {xs : Array Value} {t : Nat} {v : Value} (h : xs[t]? = some v) : xs[t]?.getD undef = v := by rw [h]; rfl
/-- one operation, none being let out -/
def wpOpP (P : Program) (ops : Array Oper) (Q : Exit → Act → World → Prop) (i : Nat) (K : Act → World → Prop) (a : Act) (w : World) : Prop :=
  match ops[i]? with
  | none => K a w
  | some o => if Region.wanted o (yielded ops a.tmps) then o.wp P a w K Q else K (a.put o.dst undef) w

section
variable {P : Program} {ops : Array Oper} {Q : Exit → Act → World → Prop} {n : Nat}
theorem wpOpP_step {i : Nat} {o : Oper} {K : Act → World → Prop} {a : Act} {w : World} (ho : ops[i]? = some o)
    (h : ∀ K' : Act → World → Prop, (∀ a w, K a w → K' a w) → if Region.wanted o (yielded ops a.tmps) = true then Oper.wp P o a w K' Q else K' (a.put o.dst undef) w) : wpOpP P ops Q i K a w := by
  have := h K (fun _ _ h => h)
  unfold wpOpP
  rw [ho]
  exact this

/-- the wide fence, in a round or not -/
structure WideF (F : Fence) : Prop where
  fn : ∀ f, F.fn f
  depth : F.depth = none
  calls : ∀ {P : Program} {n f : Nat} {args : Array Value} {w : World} {R : Ending → World → Prop}, Calls P f args w R → CallsIn F n P f args w R
  rows : ∀ {P : Program} {n : Nat} {row : String} {args : Array Value} {w : World} {R : Value → World → Prop}, Rows P row args w R → RowsIn F n P row args w R
theorem rowsIn_wide {n : Nat} {row : String} {args : Array Value} {w : World} {R : Value → World → Prop} (h : Rows P row args w R) : RowsIn Fence.wide n P row args w R :=
  fun c cs _ => let ⟨v, w', r, s⟩ := h c cs; ⟨v, w', r, stepsIn_wide.2 s⟩
theorem WideF.wide : WideF Fence.wide := ⟨fun _ => trivial, rfl, fun h => callsIn_wide.2 h, fun h => rowsIn_wide h⟩
theorem WideF.round (l : Nat) : WideF (Fence.wide.inRound l) := ⟨fun _ => trivial, rfl, fun h => CallsIn.inRound l (callsIn_wide.2 h), fun h => rowsIn_wide h⟩

theorem wpIn_of_wp {F : Fence} (hF : WideF F) {o : Oper} (hd : ∀ c, o.op ≠ .defer c) {a : Act} {w : World} {K : Act → World → Prop} (h : o.wp P a w K Q) : o.wpIn F n P a w K Q := by
  unfold Oper.wpIn
  refine ⟨fun f _ => hF.fn f, ?_⟩
  rw [Oper.semAt_eq _ _ _ hd]
  unfold Oper.wp at h
  generalize (execOp a.eval o).run P w = r at *
  cases r with
  | ok x w' =>
    cases x <;> simp only [Oper.upon, Oper.uponIn] at h ⊢
    all_goals first
      | exact h
      | exact ⟨fun hh => by rw [hF.depth] at hh; simp at hh, hF.rows h⟩
      | exact False.elim h
      | skip
    refine ⟨fun hh => by rw [hF.depth] at hh; simp at hh, hF.calls (Calls.mono h ?_)⟩
    intro e w'' he
    cases e <;> exact he
  | halt x w' => cases x <;> simp only [Oper.upon, Oper.uponIn] at h ⊢ <;> exact h
def noDefer (ops : Array Oper) : Bool := ops.all fun o => match o.op with | .defer _ => false | _ => true
theorem noDefer_spec (h : noDefer ops = true) {i : Nat} {o : Oper} (ho : ops[i]? = some o) : ∀ c, o.op ≠ .defer c := by
  intro c e
  unfold noDefer at h
  rw [Array.all_eq_true_iff_forall_mem] at h
  have := h o (Array.mem_of_getElem? ho)
  rw [e] at this
  cases this
theorem wpOpIn_of_P {F : Fence} (hF : WideF F) (hnd : noDefer ops = true) {i : Nat} {a : Act} {w : World} {K : Act → World → Prop} (h : wpOpP P ops Q i K a w) : wpOpIn F n P ops Q i K a w := by
  unfold wpOpP at h
  unfold wpOpIn
  cases ho : ops[i]? with
  | none => rw [ho] at h; exact h
  | some o =>
    rw [ho] at h
    show if Region.wanted o (yielded ops a.tmps) = true then _ else _
    have h' : if Region.wanted o (yielded ops a.tmps) = true then o.wp P a w K Q else K (a.put o.dst undef) w := h
    split
    · rename_i hw; rw [if_pos hw] at h'; exact wpIn_of_wp hF (noDefer_spec hnd ho) h'
    · rename_i hw; rw [if_neg hw] at h'; exact ⟨fun f _ => hF.fn f, h'⟩

theorem wpAnyIn_inv {F : Fence} {md : Region.Mode} (I : Array Bool → Act → World → Prop) (hord : ordB md ops = true)
    (hstep : ∀ (listed : Array Bool) (a : Act) (w : World) (i : Nat) (o : Oper), listed.size = ops.size → ops[i]? = some o → listed.getD i true = false → (∀ e ∈ o.after, Region.binds md e = true → listed.getD e.on false = true) →
      I listed a w → wpOpIn F n P ops Q i (I (listed.setIfInBounds i true)) a w)
    (hend : ∀ (listed : Array Bool) (a : Act) (w : World), listed.size = ops.size → (∀ i, i < ops.size → listed.getD i false = true) → I listed a w → Q .normal a w) :
    ∀ (fuel : Nat) (listed : Array Bool) (a : Act) (w : World), listed.size = ops.size → unl listed ≤ fuel → I listed a w → wpAnyIn F n P md ops Q fuel listed a w := by
  intro fuel
  induction fuel with
  | zero =>
    intro listed a w hs hu hI
    have hall := all_of_unl (l := listed) (by omega)
    refine ⟨?_, hend _ _ _ hs (fun i hi => hall i (by omega)) hI⟩
    rw [List.eq_nil_iff_forall_not_mem]
    intro i hi
    obtain ⟨h0, o, ho, _⟩ := mem_ready.1 hi
    obtain ⟨hi', he⟩ := getD_lt h0
    have := hall i hi'
    simp [Array.getD, hi', he] at this
  | succ fuel ih =>
    intro listed a w hs hu hI
    refine ⟨fun hr => hend _ _ _ hs (all_of_ready hord hs hr) hI, fun i hi => ?_⟩
    obtain ⟨h0, o, ho, hp⟩ := mem_ready.1 hi
    refine wpOpIn_mono (fun a' w' h' => ih _ a' w' (by simpa using hs) (by have := unl_set h0; omega) h') (hstep listed a w i o hs ho h0 hp hI)

/-- each operation ahead of m yields a value; whoever comes at m or behind it waits for all ahead -/
def tailB (ops : Array Oper) (m : Nat) (vs : List (Nat × Nat)) (n : Nat) : Bool :=
  ordB .any ops && noDefer ops && decide (m ≤ ops.size) && decide ((vs.map (·.2)).Nodup) && decide ((vs.map (·.1)).Nodup) && vs.all (fun v => decide (v.1 < m) && decide (v.2 < n)) &&
  ((List.range m).all fun i => vs.any fun v => v.1 == i) && (decide (m = ops.size) || (List.range m).all fun j => (List.range (m + 1)).any fun i => decide (j < i) && depB ops i j) &&
  (List.range ops.size).all fun i => decide (i ≤ m) || depB ops i (i - 1)

/-- the values of all, put in -/
theorem fold_vals {vs : List ValD} {a a0 : Act} (hvinj : ∀ u ∈ vs, ∀ v ∈ vs, u.slot = v.slot → u = v) (hlt : ∀ v ∈ vs, v.slot < a0.tmps.size) (j2 : a.tmps.size = a0.tmps.size) (j3 : a.defers = a0.defers)
    (j4 : ∀ t, (vs.map (·.slot)).contains t = false → a.tmps[t]? = a0.tmps[t]?) (hX : ∀ v ∈ vs, ∃ x, a.tmps[v.slot]? = some x) :
    a = vs.foldl (fun b v => b.put (some v.slot) ((a.tmps[v.slot]?).getD undef)) a0 := by
  have hfv : ∀ (X : Nat → Value) (l : List ValD) (a1 : Act), (∀ v ∈ l, v.slot < a1.tmps.size) → (l.foldl (fun a v => a.put (some v.slot) (X v.slot)) a1).defers = a1.defers ∧ (l.foldl (fun a v => a.put (some v.slot) (X v.slot)) a1).tmps.size = a1.tmps.size ∧
      ∀ t, (l.foldl (fun a v => a.put (some v.slot) (X v.slot)) a1).tmps[t]? = if t ∈ l.map (·.slot) then some (X t) else a1.tmps[t]? := fun X l => by
    induction l with
    | nil => intro a1 _; exact ⟨rfl, rfl, fun t => by simp⟩
    | cons x xs ih =>
      intro a1 h
      have hx := h x (by simp)
      have hs : (a1.put (some x.slot) (X x.slot)).tmps.size = a1.tmps.size := by simp [Act.put]
      obtain ⟨h1, h2, h3⟩ := ih (a1.put (some x.slot) (X x.slot)) (fun b hb => by rw [hs]; exact h b (List.mem_cons_of_mem _ hb))
      simp only [List.foldl_cons]
      refine ⟨h1.trans rfl, h2.trans hs, fun t => ?_⟩
      rw [h3 t, act_put_get hx]
      simp only [List.map_cons, List.mem_cons]
      by_cases e : t ∈ xs.map (·.slot)
      · simp [e]
      · by_cases e2 : x.slot = t
        · subst e2; simp [e]
        · simp [e, e2, Ne.symm e2]
  obtain ⟨f1, f2, f3⟩ := hfv (fun t => (a.tmps[t]?).getD undef) vs a0 hlt
  have ht : a.tmps = (vs.foldl (fun b v => b.put (some v.slot) ((a.tmps[v.slot]?).getD undef)) a0).tmps := by
    apply Array.ext_getElem?
    intro t
    rw [f3 t]
    by_cases e : t ∈ vs.map (·.slot)
    · rw [if_pos e]
      obtain ⟨v, hv, rfl⟩ := List.mem_map.1 e
      obtain ⟨x, hx⟩ := hX v hv
      rw [hx]; rfl
    · rw [if_neg e]
      refine j4 t ?_
      cases hc : (vs.map (·.slot)).contains t with
      | false => rfl
      | true => rw [List.contains_iff_mem] at hc; exact absurd hc e
  have hdf := j3.trans f1.symm
  revert ht hdf
  generalize vs.foldl (fun b v => b.put (some v.slot) ((a.tmps[v.slot]?).getD undef)) a0 = a1
  cases a; cases a1
  intro ht hdf
  simp only at ht hdf
  subst ht hdf
  rfl

/-- E: how worlds follow on each other within the region (Eq: reads alone; Below: calls) -/
theorem wpAnyIn_tail {F : Fence} (hF : WideF F) (E : World → World → Prop) (hE0 : ∀ w, E w w) (hEt : ∀ a b c, E a b → E b c → E a c) {a0 : Act} {w0 : World} (vs : List ValD) (m : Nat) (hV : tailB ops m (vs.map fun v => (v.op, v.slot)) a0.tmps.size = true)
    (hsv : allP (fun v => ∀ x w w', E w w' → v.P x w → v.P x w') vs)
    (hval : allP (fun v => ∀ (a : Act) (w : World) K, E w0 w → (∀ t, (vs.map (·.slot)).contains t = false → a.tmps[t]? = a0.tmps[t]?) → (∀ (k : Nat) (u : ValD), vs[k]? = some u → depB ops v.op u.op = true → ∃ x, a.tmps[u.slot]? = some x ∧ u.P x w) →
      (∀ x w', E w w' → v.P x w' → K (a.put (some v.slot) x) w') → wpOpP P ops Q v.op K a w) vs)
    (hend : ∀ w (X : Nat → Value), E w0 w → allP (fun v => v.P (X v.slot) w) vs →
      wpListIn F n P ops Q (ops.toList.drop m) (vs.foldl (fun a v => a.put (some v.slot) (X v.slot)) a0) w) :
    wpAnyIn F n P .any ops Q ops.size (Array.replicate ops.size false) a0 w0 := by
  simp only [tailB, Bool.and_eq_true, decide_eq_true_eq, List.all_eq_true, List.map_map, Bool.or_eq_true] at hV
  obtain ⟨⟨⟨⟨⟨⟨⟨⟨hord, hnd⟩, hm⟩, n1⟩, n2⟩, n3⟩, n4⟩, n5⟩, n6⟩ := hV
  have v3 : ∀ v ∈ vs, v.op < m ∧ v.slot < a0.tmps.size := fun v hv => n3 (v.op, v.slot) (List.mem_map.2 ⟨v, hv, rfl⟩)
  have hvinj : ∀ u ∈ vs, ∀ v ∈ vs, u.slot = v.slot → u = v := fun u hu v hv e => nodup_inj (f := ValD.slot) (by have h := n1; exact h) hu hv e
  have hoinj : ∀ u ∈ vs, ∀ v ∈ vs, u.op = v.op → u = v := fun u hu v hv e => nodup_inj (f := ValD.op) (by have h := n2; exact h) hu hv e
  have hdep : ∀ {i j : Nat} {o : Oper} {listed : Array Bool}, ops[i]? = some o → (∀ e ∈ o.after, Region.binds .any e = true → listed.getD e.on false = true) → depB ops i j = true → listed.getD j false = true := fun {i j o listed} ho hp hd => by
    unfold depB at hd
    rw [ho] at hd
    simp only [Option.map_some, Option.getD_some, Array.any_eq_true'] at hd
    obtain ⟨e, he, h5⟩ := hd
    simp only [Bool.and_eq_true, beq_iff_eq] at h5
    exact h5.2 ▸ hp e he h5.1
  have hdl : ∀ {i j : Nat}, depB ops i j = true → i < ops.size := fun {i j} hd => by
    unfold depB at hd
    cases ho : ops[i]? with
    | none => rw [ho] at hd; simp at hd
    | some o => exact (Array.getElem?_eq_some_iff.1 ho).1
  -- the operations at m and behind it, in their order
  have hops : ∀ k, k ≤ ops.size → wpOpsIn F n P ops Q (List.range' k (ops.size - k)) = wpListIn F n P ops Q (ops.toList.drop k) := fun k hk => by
    have := wpOpsIn_eq_wpListIn (F := F) (n := n) (P := P) (ops := ops) (Q := Q) (ops.toList.drop k) k (fun j => by simp)
    rwa [List.length_drop, Array.length_toList] at this
  refine wpAnyIn_inv (fun listed a w => (∀ i o, ops[i]? = some o → listed.getD i false = true → ∀ e ∈ o.after, Region.binds .any e = true → listed.getD e.on false = true) ∧
      (((∀ i, m ≤ i → listed.getD i false = false) ∧ E w0 w ∧ a.tmps.size = a0.tmps.size ∧ a.defers = a0.defers ∧ (∀ t, (vs.map (·.slot)).contains t = false → a.tmps[t]? = a0.tmps[t]?) ∧
        ∀ v ∈ vs, listed.getD v.op false = true → ∃ x, a.tmps[v.slot]? = some x ∧ v.P x w) ∨
      ∃ k, m < k ∧ k ≤ ops.size ∧ (∀ j, j < ops.size → (listed.getD j false = true ↔ j < k)) ∧ wpOpsIn F n P ops Q (List.range' k (ops.size - k)) a w)) hord ?_ ?_ ops.size _ a0 w0 (by simp) (by unfold unl; exact Nat.le_trans List.countP_le_length (by simp)) ?_
  · rintro listed a w i o hsz ho hi hp ⟨hcl, h⟩
    have hil : i < ops.size := (Array.getElem?_eq_some_iff.1 ho).1
    have hset : ∀ j, (listed.setIfInBounds i true).getD j false = true ↔ j = i ∨ listed.getD j false = true := fun j => by
      by_cases e : i = j
      · subst e; simp [Array.getD, hsz, hil]
      · rw [getD_set_ne false e]; constructor
        · exact .inr
        · rintro (h | h)
          · exact absurd h.symm e
          · exact h
    have hcl' : ∀ j o', ops[j]? = some o' → (listed.setIfInBounds i true).getD j false = true → ∀ e ∈ o'.after, Region.binds .any e = true → (listed.setIfInBounds i true).getD e.on false = true := fun j o' hj hl e he hb => by
      rcases (hset j).1 hl with rfl | h2
      · rw [ho] at hj; cases hj
        exact (hset _).2 (.inr (hp e he hb))
      · exact (hset _).2 (.inr (hcl j o' hj h2 e he hb))
    have hpi : listed.getD i false = false := getD_false_of hi
    -- the tail's next operation
    have htail : ∀ k, k ≤ ops.size → m ≤ k → i = k → (∀ j, j < ops.size → (listed.getD j false = true ↔ j < k)) → wpOpsIn F n P ops Q (List.range' k (ops.size - k)) a w →
        wpOpIn F n P ops Q i (fun a' w' => (∀ i' o, ops[i']? = some o → (listed.setIfInBounds i true).getD i' false = true → ∀ e ∈ o.after, Region.binds .any e = true → (listed.setIfInBounds i true).getD e.on false = true) ∧
          (((∀ i', m ≤ i' → (listed.setIfInBounds i true).getD i' false = false) ∧ E w0 w' ∧ a'.tmps.size = a0.tmps.size ∧ a'.defers = a0.defers ∧ (∀ t, (vs.map (·.slot)).contains t = false → a'.tmps[t]? = a0.tmps[t]?) ∧
            ∀ v ∈ vs, (listed.setIfInBounds i true).getD v.op false = true → ∃ x, a'.tmps[v.slot]? = some x ∧ v.P x w') ∨
          ∃ k, m < k ∧ k ≤ ops.size ∧ (∀ j, j < ops.size → ((listed.setIfInBounds i true).getD j false = true ↔ j < k)) ∧ wpOpsIn F n P ops Q (List.range' k (ops.size - k)) a' w')) a w := fun k hk hmk hik hlt hw => by
      subst hik
      rw [show ops.size - i = (ops.size - (i + 1)) + 1 by omega, List.range'_succ, wpOpsIn_cons] at hw
      refine wpOpIn_mono (fun a' w' h' => ⟨hcl', .inr ⟨i + 1, by omega, by omega, fun j hj => ?_, h'⟩⟩) hw
      rw [hset j, hlt j hj]; omega
    rcases h with ⟨h1, j1, j2, j3, j4, j5⟩ | ⟨k, hk1, hk2, hk3, hk4⟩
    · by_cases him : i < m
      · have h5 := n4 i (List.mem_range.2 him)
        rw [List.any_eq_true] at h5
        obtain ⟨q, hq, he⟩ := h5
        simp only [beq_iff_eq] at he
        obtain ⟨v, hv, rfl⟩ := List.mem_map.1 hq
        subst he
        refine wpOpIn_of_P hF hnd (hval.mem v hv a w _ j1 j4 (fun k u hu hd => j5 u (List.mem_of_getElem? hu) (hdep ho hp hd)) (fun x w' hbl hx => ⟨hcl', .inl ⟨fun i' hi' => ?_, hEt _ _ _ j1 hbl, by simp [Act.put, j2], j3, fun t ht => ?_, fun u hu hl => ?_⟩⟩))
        · rw [getD_set_ne false (by have := (v3 v hv).1; show v.op ≠ i'; omega)]; exact h1 i' hi'
        · have hne : v.slot ≠ t := fun e => by
            have hc : (vs.map (·.slot)).contains t = true := by
              rw [List.contains_iff_mem]; exact List.mem_map.2 ⟨_, hv, e⟩
            rw [hc] at ht; cases ht
          show (a.tmps.setIfInBounds v.slot _)[t]? = _
          rw [Array.getElem?_setIfInBounds_ne hne]; exact j4 t ht
        · by_cases e : u = v
          · subst e
            refine ⟨x, ?_, hx⟩
            show (a.tmps.setIfInBounds u.slot x)[u.slot]? = _
            simp [j2, (v3 u hu).2]
          · have hne : v.op ≠ u.op := fun e' => e (hoinj u hu v hv e'.symm)
            have hl' : listed.getD u.op false = true := by
              rcases (hset u.op).1 hl with h | h
              · exact absurd h.symm hne
              · exact h
            obtain ⟨y, hy, hpy⟩ := j5 u hu hl'
            refine ⟨y, ?_, hsv.mem u hu y _ _ hbl hpy⟩
            show (a.tmps.setIfInBounds v.slot x)[u.slot]? = _
            rw [Array.getElem?_setIfInBounds_ne (fun e' => e (hvinj u hu v hv e'.symm))]; exact hy
      · by_cases hie : i = m
        · -- all ahead of m have come up
          have hall : ∀ d j, m - j = d → j < m → listed.getD j false = true := by
            intro d
            induction d using Nat.strongRecOn with
            | _ d ih =>
              intro j hd hj
              rcases n5 with h | h
              · omega
              · have := h j (List.mem_range.2 hj)
                rw [List.any_eq_true] at this
                obtain ⟨i', hi', h2⟩ := this
                simp only [Bool.and_eq_true, decide_eq_true_eq] at h2
                have hi2 := List.mem_range.1 hi'
                by_cases e : i' = m
                · subst e
                  subst hie
                  exact hdep ho hp h2.2
                · have h3 := ih (m - i') (by omega) i' rfl (by omega)
                  obtain ⟨o', ho'⟩ : ∃ o', ops[i']? = some o' := ⟨ops[i']'(by omega), by simp⟩
                  exact hdep ho' (fun e he hb => hcl i' o' ho' h3 e he hb) h2.2
          have hX : ∀ v ∈ vs, ∃ x, a.tmps[v.slot]? = some x ∧ v.P x w := fun v hv => j5 v hv (hall _ _ rfl (v3 v hv).1)
          have hfin := fold_vals hvinj (fun v hv => (v3 v hv).2) j2 j3 j4 (fun v hv => by obtain ⟨x, hx, _⟩ := hX v hv; exact ⟨x, hx⟩)
          have := hend w (fun t => (a.tmps[t]?).getD undef) j1 (allP.of fun v hv => by obtain ⟨x, hx, hp⟩ := hX v hv; simp only [hx, Option.getD_some]; exact hp)
          rw [← hfin, ← hops m hm] at this
          refine htail m hm (Nat.le_refl _) hie (fun j hj => ?_) this
          constructor
          · intro hl
            refine Nat.lt_of_not_le fun hc => ?_
            rw [h1 j hc] at hl; cases hl
          · intro hl; exact hall _ _ rfl hl
        · exfalso
          have := n6 i (List.mem_range.2 hil)
          rcases this with h | h
          · omega
          · have := hdep ho hp h
            rw [h1 (i - 1) (by omega)] at this; cases this
    · have hik : i = k := by
        have h1 : ¬ i < k := fun h => by rw [(hk3 i hil).2 h] at hpi; cases hpi
        by_cases e : i = k
        · exact e
        · exfalso
          have := n6 i (List.mem_range.2 hil)
          rcases this with h | h
          · omega
          · have h2 := (hk3 (i - 1) (by omega)).1 (hdep ho hp h)
            omega
      exact htail k hk2 (by omega) hik hk3 hk4
  · rintro listed a w hsz hall ⟨hcl, h⟩
    rcases h with ⟨h1, j1, j2, j3, j4, j5⟩ | ⟨k, hk1, hk2, hk3, hk4⟩
    · have hms : m = ops.size := by
        rcases (by omega : m = ops.size ∨ m < ops.size) with h | h
        · exact h
        · have := hall m h
          rw [h1 m (Nat.le_refl _)] at this; cases this
      have hX : ∀ v ∈ vs, ∃ x, a.tmps[v.slot]? = some x ∧ v.P x w := fun v hv => j5 v hv (hall _ (by have := (v3 v hv).1; omega))
      have hfin := fold_vals hvinj (fun v hv => (v3 v hv).2) j2 j3 j4 (fun v hv => by obtain ⟨x, hx, _⟩ := hX v hv; exact ⟨x, hx⟩)
      have := hend w (fun t => (a.tmps[t]?).getD undef) j1 (allP.of fun v hv => by obtain ⟨x, hx, hp⟩ := hX v hv; simp only [hx, Option.getD_some]; exact hp)
      rw [← hfin, List.drop_eq_nil_of_le (by simp; omega)] at this
      exact this
    · have hke : k = ops.size := by
        rcases (by omega : k = ops.size ∨ k < ops.size) with h | h
        · exact h
        · have := (hk3 k h).1 (hall k h); omega
      rw [hke, Nat.sub_self] at hk4
      exact hk4
  · refine ⟨fun i o ho hl => ?_, (.inl ⟨fun i _ => ?_, hE0 _, rfl, rfl, fun _ _ => rfl, fun v hv h => ?_⟩)⟩
    · exfalso; revert hl; simp only [Array.getD]; split <;> simp
    · simp only [Array.getD]; split <;> simp
    · exfalso; revert h; simp only [Array.getD]; split <;> simp
/-- a scope in the body of a range over a function, no jump to its label -/
theorem stepR_scope {b : Frame} {a : Act} {k : List Item} {cs : List Frame} {w : World} {c : Code} : step P (lone (b.atR a (.code (.scope c) :: k)) cs w) = .next (lone (b.atR a (.code c :: .inScope c :: k)) cs w) :=
  step_lone_go (by simp [stepG, stepG.exec, Frame.atR])
theorem stepR_inScope {b : Frame} {a : Act} {k : List Item} {cs : List Frame} {w : World} {c : Code} : step P (lone (b.atR a (.inScope c :: k)) cs w) = .next (lone (b.atR a k) cs w) :=
  step_lone_go (by simp [stepG, stepG.exec, Frame.atR])
theorem wpIn_scope_straight {F : Fence} {a : Act} {w : World} {c : Code} (h : c.wpIn F n P (Exit.noGoto Q) a w) : (Code.scope c).wpIn F n P Q a w := by
  intro b k cs hro hb hr
  have h0 : (lone (b.atR a (.code (.scope c) :: k)) cs w).fenced P F := fenced_calm hb hr rfl
  obtain ⟨e, a₁, w₁, hq, harr⟩ := h b (.inScope c :: k) cs hro hb hr
  cases e with
  | normal => exact ⟨.normal, a₁, w₁, hq, .head h0 stepR_scope (StepsIn.trans harr (.one (fenced_calm hb hr rfl) stepR_inScope))⟩
  | exit id => exact ⟨.exit id, a₁, w₁, hq, fun k' hk => .head h0 stepR_scope (harr.1 k' (by simp [exitTo, hk])), fun hr' hk => let ⟨k₁, h1, h2⟩ := harr.2 hr' (by simp [exitTo, hk]); ⟨k₁, h1, .head h0 stepR_scope h2⟩⟩
  | goto l => exact hq.elim
  | ret => exact ⟨_, a₁, w₁, hq, .of_steps (.one h0 stepR_scope) harr⟩
  | panic ch => exact ⟨_, a₁, w₁, hq, .of_steps (.one h0 stepR_scope) harr⟩
  | outgrown => exact ⟨_, a₁, w₁, hq, .of_steps (.one h0 stepR_scope) harr⟩
end
end Go.Proofs.YtjdiilkljgljkaaGreatDoor
