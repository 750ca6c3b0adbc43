/- OrientIsExact: for every input the law returns true, and each argument reads afterwards as it read before; the package variable that the row lists holds what it lists. -/
import Derived.Test.YtfjanlfbnliokaaDoorCards
import Derived.Test.YtfjanlfbnliokaaDoorTie
import Derived.Test.YtfjanlfbnliokaaDoorLaw6
import Derived.Test.YtfjanlfbnliokaaDoorOpenPt
import Derived.WalkKit
import Derived.ProofKit
import Derived.OpenShut
import Derived.Below
import Derived.Deep.DeepHandedRow
import Derived.Lib.LaidTab
import Derived.Test.YtfjanlfbnliokaaDoorTab
namespace Go.Proofs.YtfjanlfbnliokaaDoor.orientIsExact
open Go.ChangeShapes Go.WideShapes Go.ChangeAt Go.RowKit Wd
set_option linter.unusedVariables false
set_option linter.unusedSimpArgs false

theorem own : ownKnob Tryd.prog.godebug = none := by kernel_rfl
theorem laidOut : laidOutB Tryd.prog = true := by kernel_rfl

set_option maxHeartbeats 4000000 in
theorem walk {w : World} (a0 b0 : Int) (w0 : (Lit.int .i64 a0).wf = true) (x0 : (Lit.int .i64 b0).wf = true) (a1 b1 : Int) (w1 : (Lit.int .i64 a1).wf = true) (x1 : (Lit.int .i64 b1).wf = true) (a2 b2 : Int) (w2 : (Lit.int .i64 a2).wf = true) (x2 : (Lit.int .i64 b2).wf = true) (hT : TabM w) (hW : TabO w) :
    Calls Tryd.prog 3 #[.agg #[.int .i64 a0, .int .i64 b0], .agg #[.int .i64 a1, .int .i64 b1], .agg #[.int .i64 a2, .int .i64 b2]] w fun e w' => e = .returned (.bool true) ∧ Below w.heap.size w w' := by
  have HB0 := Lib.hid (Below.refl w.heap.size w)
  have ia0 := isI_of_wf w0
  have ib0 := isI_of_wf x0
  have ia1 := isI_of_wf w1
  have ib1 := isI_of_wf x1
  have ia2 := isI_of_wf w2
  have ib2 := isI_of_wf x2
  have FT := Lib.hid hT; clear hT
  have FW := Lib.hid hW; clear hW
  have r0 := sign_range (det a0 b0 a1 b1 a2 b2)
  go_enter Tryd.func3, Tryd.ntmps3
  go_wp2_with fail
  have B : Below w.heap.size w (((w.alloc (.cells #[.int .i64 a0, .int .i64 b0] 23)).alloc (.cells #[.int .i64 a1, .int .i64 b1] 23)).alloc (.cells #[.int .i64 a2, .int .i64 b2] 23)) := (((HB0.out.alloc HB0.out.size _).alloc (HB0.out.alloc HB0.out.size _).size _).alloc ((HB0.out.alloc HB0.out.size _).alloc (HB0.out.alloc HB0.out.size _).size _).size _)
  have C : Below w.heap.size w (((w.alloc (.cells #[.int .i64 a0, .int .i64 b0] 23)).alloc (.cells #[.int .i64 a1, .int .i64 b1] 23)).alloc (.cells #[.int .i64 a2, .int .i64 b2] 23)) := ((((Below.refl w.heap.size w).alloc (Nat.le_refl _) _).alloc (by simp; try omega) _).alloc (by simp; try omega) _)
  have X0 : Bx (((w.alloc (.cells #[.int .i64 a0, .int .i64 b0] 23)).alloc (.cells #[.int .i64 a1, .int .i64 b1] 23)).alloc (.cells #[.int .i64 a2, .int .i64 b2] 23)) (w.heap.size) #[.int .i64 a0, .int .i64 b0] 23 := by simpa using (((Bx.new w #[.int .i64 a0, .int .i64 b0] 23).alloc _).alloc _)
  have X1 : Bx (((w.alloc (.cells #[.int .i64 a0, .int .i64 b0] 23)).alloc (.cells #[.int .i64 a1, .int .i64 b1] 23)).alloc (.cells #[.int .i64 a2, .int .i64 b2] 23)) (w.heap.size + 1) #[.int .i64 a1, .int .i64 b1] 23 := by simpa using ((Bx.new (w.alloc (.cells #[.int .i64 a0, .int .i64 b0] 23)) #[.int .i64 a1, .int .i64 b1] 23).alloc _)
  have X2 : Bx (((w.alloc (.cells #[.int .i64 a0, .int .i64 b0] 23)).alloc (.cells #[.int .i64 a1, .int .i64 b1] 23)).alloc (.cells #[.int .i64 a2, .int .i64 b2] 23)) (w.heap.size + 1 + 1) #[.int .i64 a2, .int .i64 b2] 23 := by simpa using (Bx.new ((w.alloc (.cells #[.int .i64 a0, .int .i64 b0] 23)).alloc (.cells #[.int .i64 a1, .int .i64 b1] 23)) #[.int .i64 a2, .int .i64 b2] 23)
  have FT_1 := Lib.hid (FT.out.below C (Nat.le_refl _))
  have FW_1 := Lib.hid (FW.out.below C (Nat.le_refl _))
  have HB1 := Lib.hid B
  have FP_1 := Lib.hid X0
  have FQ_1 := Lib.hid X1
  have FR_1 := Lib.hid X2
  clear B C X0 X1 X2 HB0 FT FW
  generalize (((w.alloc (.cells #[.int .i64 a0, .int .i64 b0] 23)).alloc (.cells #[.int .i64 a1, .int .i64 b1] 23)).alloc (.cells #[.int .i64 a2, .int .i64 b2] 23)) = w1 at *
  skip
  refine (ref6_Value a0 b0 a1 b1 a2 b2 (show P3 a0 b0 a1 b1 a2 b2 from ⟨ia0, ib0, ia1, ib1, ia2, ib2⟩) _).mono ?_
  rintro e w2 ⟨⟨A1, k1, c1, rfl, b1_, N1⟩, B⟩
  have HB2 := Lib.hid (HB1.out.trans (B.mono HB1.out.size))
  have FT_2 := Lib.hid (FT_1.out.below B (Nat.le_refl _))
  have FW_2 := Lib.hid (FW_1.out.below B (Nat.le_refl _))
  have FP_2 := Lib.hid (FP_1.out.below B (Nat.le_refl _))
  have FQ_2 := Lib.hid (FQ_1.out.below B (Nat.le_refl _))
  have FR_2 := Lib.hid (FR_1.out.below B (Nat.le_refl _))
  have FNV_2 := Lib.hid N1
  clear B N1 HB1 FT_1 FW_1 FP_1 FQ_1 FR_1
  go_wp2_with fail
  have B : Below w.heap.size w (w2.alloc (.cells #[.int .i64 (sg (det a0 b0 a1 b1 a2 b2)), .slice A1 k1 c1] 26)) := (HB2.out.alloc HB2.out.size _)
  have C : Below w2.heap.size w2 (w2.alloc (.cells #[.int .i64 (sg (det a0 b0 a1 b1 a2 b2)), .slice A1 k1 c1] 26)) := ((Below.refl w2.heap.size w2).alloc (Nat.le_refl _) _)
  have X0 : Bx (w2.alloc (.cells #[.int .i64 (sg (det a0 b0 a1 b1 a2 b2)), .slice A1 k1 c1] 26)) (w2.heap.size) #[.int .i64 (sg (det a0 b0 a1 b1 a2 b2)), .slice A1 k1 c1] 26 := by simpa using (Bx.new w2 #[.int .i64 (sg (det a0 b0 a1 b1 a2 b2)), .slice A1 k1 c1] 26)
  have FT_3 := Lib.hid (FT_2.out.below C (Nat.le_refl _))
  have FW_3 := Lib.hid (FW_2.out.below C (Nat.le_refl _))
  have FP_3 := Lib.hid (FP_2.out.below C (Nat.le_refl _))
  have FQ_3 := Lib.hid (FQ_2.out.below C (Nat.le_refl _))
  have FR_3 := Lib.hid (FR_2.out.below C (Nat.le_refl _))
  have FNV_3 := Lib.hid (FNV_2.out.below C (Nat.le_refl _))
  have HB3 := Lib.hid B
  have FN_3 := Lib.hid X0
  clear B C X0 HB2 FT_2 FW_2 FP_2 FQ_2 FR_2 FNV_2
  generalize (w2.alloc (.cells #[.int .i64 (sg (det a0 b0 a1 b1 a2 b2)), .slice A1 k1 c1] 26)) = w3 at *
  have RB3 := Lib.hid (below_drew0 w3)
  have QS3 := Lib.hid (show w3.cell? ⟨w.heap.size, 0, none⟩ = some (.int .i64 a0) ∧ w3.cell? ⟨w.heap.size, 1, none⟩ = some (.int .i64 b0) ∧ w3.cell? ⟨w.heap.size + 1, 0, none⟩ = some (.int .i64 a1) ∧ w3.cell? ⟨w.heap.size + 1, 1, none⟩ = some (.int .i64 b1) ∧ w3.cell? ⟨w.heap.size + 1 + 1, 0, none⟩ = some (.int .i64 a2) ∧ w3.cell? ⟨w.heap.size + 1 + 1, 1, none⟩ = some (.int .i64 b2) ∧ w3.cell? ⟨w2.heap.size, 0, none⟩ = some (.int .i64 (sg (det a0 b0 a1 b1 a2 b2))) ∧ w3.cell? ⟨w2.heap.size, 1, none⟩ = some (.slice A1 k1 c1) from ⟨FP_3.out.cell 0 (v := .int .i64 a0) rfl, FP_3.out.cell 1 (v := .int .i64 b0) rfl, FQ_3.out.cell 0 (v := .int .i64 a1) rfl, FQ_3.out.cell 1 (v := .int .i64 b1) rfl, FR_3.out.cell 0 (v := .int .i64 a2) rfl, FR_3.out.cell 1 (v := .int .i64 b2) rfl, FN_3.out.cell 0 (v := .int .i64 (sg (det a0 b0 a1 b1 a2 b2))) rfl, FN_3.out.cell 1 (v := .slice A1 k1 c1) rfl⟩)
  have QF3 := Lib.hid (show ∀ w', Below w3.heap.size w3 w' → w'.cell? ⟨w.heap.size, 0, none⟩ = some (.int .i64 a0) ∧ w'.cell? ⟨w.heap.size, 1, none⟩ = some (.int .i64 b0) ∧ w'.cell? ⟨w.heap.size + 1, 0, none⟩ = some (.int .i64 a1) ∧ w'.cell? ⟨w.heap.size + 1, 1, none⟩ = some (.int .i64 b1) ∧ w'.cell? ⟨w.heap.size + 1 + 1, 0, none⟩ = some (.int .i64 a2) ∧ w'.cell? ⟨w.heap.size + 1 + 1, 1, none⟩ = some (.int .i64 b2) ∧ w'.cell? ⟨w2.heap.size, 0, none⟩ = some (.int .i64 (sg (det a0 b0 a1 b1 a2 b2))) ∧ w'.cell? ⟨w2.heap.size, 1, none⟩ = some (.slice A1 k1 c1) from fun w' hb => ⟨(FP_3.out.below hb (Nat.le_refl _)).cell 0 (v := .int .i64 a0) rfl, (FP_3.out.below hb (Nat.le_refl _)).cell 1 (v := .int .i64 b0) rfl, (FQ_3.out.below hb (Nat.le_refl _)).cell 0 (v := .int .i64 a1) rfl, (FQ_3.out.below hb (Nat.le_refl _)).cell 1 (v := .int .i64 b1) rfl, (FR_3.out.below hb (Nat.le_refl _)).cell 0 (v := .int .i64 a2) rfl, (FR_3.out.below hb (Nat.le_refl _)).cell 1 (v := .int .i64 b2) rfl, (FN_3.out.below hb (Nat.le_refl _)).cell 0 (v := .int .i64 (sg (det a0 b0 a1 b1 a2 b2))) rfl, (FN_3.out.below hb (Nat.le_refl _)).cell 1 (v := .slice A1 k1 c1) rfl⟩)
  go_region_held3 (fun w' => w'.cell? ⟨w.heap.size, 0, none⟩ = some (.int .i64 a0) ∧ w'.cell? ⟨w.heap.size, 1, none⟩ = some (.int .i64 b0) ∧ w'.cell? ⟨w.heap.size + 1, 0, none⟩ = some (.int .i64 a1) ∧ w'.cell? ⟨w.heap.size + 1, 1, none⟩ = some (.int .i64 b1) ∧ w'.cell? ⟨w.heap.size + 1 + 1, 0, none⟩ = some (.int .i64 a2) ∧ w'.cell? ⟨w.heap.size + 1 + 1, 1, none⟩ = some (.int .i64 b2) ∧ w'.cell? ⟨w2.heap.size, 0, none⟩ = some (.int .i64 (sg (det a0 b0 a1 b1 a2 b2))) ∧ w'.cell? ⟨w2.heap.size, 1, none⟩ = some (.slice A1 k1 c1)) (first | with_reducible exact QF3.out _ RB8.out | with_reducible exact QF3.out _ RB7.out | with_reducible exact QF3.out _ RB6.out | with_reducible exact QF3.out _ RB5.out | with_reducible exact QF3.out _ RB4.out | with_reducible exact QS3.out | with_reducible exact QF3.out _ RB3.out) (first
      | (go_at_call 20; have := RB7; clear this; refine (orient_Sign a0 b0 a1 b1 a2 b2 (show P3 a0 b0 a1 b1 a2 b2 from ⟨ia0, ib0, ia1, ib1, ia2, ib2⟩) _ (FT_3.out.below RB7.out (Nat.le_refl _))).mono ?_; rintro e w8 ⟨rfl, B⟩; have RB8 := Lib.hid (RB7.out.trans (B.mono RB7.out.size)); have RV1_8 := Lib.hid (RV1_7.out.below B (Nat.le_refl _)); have RL_8 := Lib.hid (RL_7.out.below B (Nat.le_refl _)); clear B )
      | (go_at_call 17; have := RB6; clear this; refine (ref3_Same _ _ _ _ _ _ _ _ RV1_6.out RL_6.out (fun _ _ => rfl)).mono ?_; rintro e w7 ⟨rfl, B⟩; have RB7 := Lib.hid (RB6.out.trans (B.mono RB6.out.size)); have RV1_7 := Lib.hid (RV1_6.out.below B (Nat.le_refl _)); have RL_7 := Lib.hid (RL_6.out.below B (Nat.le_refl _)); clear B )
      | (go_at_call 19; have := RB5; clear this; refine (ref3_Limbs _ _ _ _ _ 3 rfl _ (FNV_3.out.below RB5.out (Nat.le_refl _)) (by omega) (by omega)).mono ?_; rintro e w6 ⟨⟨VL, dL, rfl, SL⟩, B⟩; have RB6 := Lib.hid (RB5.out.trans (B.mono RB5.out.size)); have RV1_6 := Lib.hid (RV1_5.out.below B (Nat.le_refl _)); have RL_6 := Lib.hid SL; clear B SL)
      | (go_at_call 18; have := RB4; clear this; refine (orient_Value a0 b0 a1 b1 a2 b2 (show P3 a0 b0 a1 b1 a2 b2 from ⟨ia0, ib0, ia1, ib1, ia2, ib2⟩) _).mono ?_; rintro e w5 ⟨⟨U1, u1, rfl, S1⟩, B⟩; have RB5 := Lib.hid (RB4.out.trans (B.mono RB4.out.size)); have RV1_5 := Lib.hid S1; clear B S1)
      | (go_at_call 16; have := RB3; clear this; refine (alive6 _ (FT_3.out.below RB3.out (Nat.le_refl _)) (FW_3.out.below RB3.out (Nat.le_refl _))).mono ?_; rintro e w4 ⟨rfl, B⟩; have RB4 := Lib.hid (RB3.out.trans (B.mono RB3.out.size)); clear B ))
  have FT_8 := Lib.hid (FT_3.out.below RB8.out (Nat.le_refl _))
  have FW_8 := Lib.hid (FW_3.out.below RB8.out (Nat.le_refl _))
  have FP_8 := Lib.hid (FP_3.out.below RB8.out (Nat.le_refl _))
  have FQ_8 := Lib.hid (FQ_3.out.below RB8.out (Nat.le_refl _))
  have FR_8 := Lib.hid (FR_3.out.below RB8.out (Nat.le_refl _))
  have FNV_8 := Lib.hid (FNV_3.out.below RB8.out (Nat.le_refl _))
  have FN_8 := Lib.hid (FN_3.out.below RB8.out (Nat.le_refl _))
  have HB8 := Lib.hid (HB3.out.trans (RB8.out.mono HB3.out.size))
  clear HB3 FT_3 FW_3 FP_3 FQ_3 FR_3 FNV_3 FN_3
  go_wp2_with fail
  go_ret
  exact ⟨rfl, HB8.out⟩

theorem gTab0 : Tryd.prog.globalNamed "geofence/mask.words" = some 1 := by kernel_rfl
theorem gTabType0 : (Tryd.prog.globals[1]?).map (·.type) = some 69 := by kernel_rfl
theorem cellsT0 : Tryd.prog.cellsOf 69 = 2 := by kernel_rfl
theorem cellsE0 : Tryd.prog.cellsOf 36 = 1 := by kernel_rfl
theorem tableIs0 {W : World} (h : laidMetH Tryd.prog Rows.orientIsExactRow.laid W) : Lib.TabIs Tryd.prog W "geofence/mask.words" .u64 [9223372036854775808, 18446744073709551615] :=
  Lib.tabIs_of_head (rest := _) gTab0 gTabType0 Tryd.underlying69 Tryd.underlying36 cellsE0 cellsT0 h
theorem table0 {W : World} (h : laidMetH Tryd.prog Rows.orientIsExactRow.laid W) : TabM W := ⟨(tableIs0 h).cell gTab0 0 (by decide), (tableIs0 h).cell gTab0 1 (by decide)⟩

theorem gTab1 : Tryd.prog.globalNamed "geofence/orient.wanted" = some 0 := by kernel_rfl
theorem gTabType1 : (Tryd.prog.globals[0]?).map (·.type) = some 69 := by kernel_rfl
theorem cellsT1 : Tryd.prog.cellsOf 69 = 2 := by kernel_rfl
theorem cellsE1 : Tryd.prog.cellsOf 36 = 1 := by kernel_rfl
theorem tableIs1 {W : World} (h : laidMetH Tryd.prog Rows.orientIsExactRow.laid W) : Lib.TabIs Tryd.prog W "geofence/orient.wanted" .u64 [0, 1] :=
  Lib.tabIs_of_head (rest := _) gTab1 gTabType1 Tryd.underlying69 Tryd.underlying36 cellsE1 cellsT1 (laid_tail h)
theorem table1 {W : World} (h : laidMetH Tryd.prog Rows.orientIsExactRow.laid W) : TabO W := ⟨(tableIs1 h).cell gTab1 0 (by decide), (tableIs1 h).cell gTab1 1 (by decide)⟩

theorem contract (H : Type) (enc : TypeId × Value → H) (W : World) (base : Nat) (args : Array Value) (ds gs : List (DataW H)) (before : List MemPlace)
    (hval : ∀ (j : Nat) t v, Tryd.f3.params[j]? = some t → args[j]? = some v → Value.okWide Tryd.prog W .any base t v)
    (hW : DataW.Whole enc Tryd.prog Tryd.f3.params.toList Rows.orientIsExactSpec.vars false W args.toList ds gs before) (hL : laidMetH Tryd.prog Rows.orientIsExactRow.laid W) :
    Calls Tryd.prog 3 args W fun e W' => ∃ v, e = .returned v ∧ Rows.orientIsExactSpec.post enc Tryd.prog Tryd.f3 false true false false W args v W' := by
  have hW' := hW
  obtain ⟨p, q, hA0, hV, rfl, hfz, hnd⟩ := hW
  have hA : DataW.TrodAll enc Tryd.prog W 0 (fun _ => true) true Tryd.f3.params.toList args.toList ds p := hA0
  rw [Tryd.params3] at hA hval
  obtain ⟨v0, vs0, d0, ds0, p0, q0, hargs, rfl, rfl, h0, r0⟩ := trodAll_cons hA
  obtain ⟨v1, vs1, d1, ds1, p1, q1, rfl, rfl, rfl, h1, r1⟩ := trodAll_cons r0
  obtain ⟨v2, vs2, d2, ds2, p2, q2, rfl, rfl, rfl, h2, r2⟩ := trodAll_cons r1
  obtain ⟨rfl, rfl, rfl⟩ := trodAll_nil r2
  obtain rfl : args = #[v0, v1, v2] := by cases args; simp_all
  obtain ⟨rfl, rfl⟩ := trodVars_none hV
  have k0 := h0
  have lt0 : ∀ x ∈ p0, x.block < W.heap.size := by obtain ⟨m, hm⟩ := k0; exact DataW.trod_lt m _ _ _ hm
  have k1 := h1
  have lt1 : ∀ x ∈ p1, x.block < W.heap.size := by obtain ⟨m, hm⟩ := k1; exact DataW.trod_lt m _ _ _ hm
  have k2 := h2
  have lt2 : ∀ x ∈ p2, x.block < W.heap.size := by obtain ⟨m, hm⟩ := k2; exact DataW.trod_lt m _ _ _ hm
  obtain ⟨a0, b0, rfl, w0, x0⟩ := Op.open_pt Tryd.underlying23 rfl rfl rfl rfl Tryd.underlying2 (by kernel_rfl) (by kernel_rfl) h0
  obtain ⟨a1, b1, rfl, w1, x1⟩ := Op.open_pt Tryd.underlying23 rfl rfl rfl rfl Tryd.underlying2 (by kernel_rfl) (by kernel_rfl) h1
  obtain ⟨a2, b2, rfl, w2, x2⟩ := Op.open_pt Tryd.underlying23 rfl rfl rfl rfl Tryd.underlying2 (by kernel_rfl) (by kernel_rfl) h2
  clear hA0
  refine (walk a0 b0 w0 x0 a1 b1 w1 x1 a2 b2 w2 x2 (table0 hL) (table1 hL)).mono fun e W' ⟨he, bel⟩ => ?_
  subst he
  exact ⟨_, rfl, _, _, _, [], _, [], hW', trodAll_mk1 (shut_bool Tryd.underlying4 _), (trodAll_cons_mk (Below.trod laidOut (by kernel_rfl) (of_decide_eq_true (by kernel_rfl)) k0 bel lt0) (trodAll_cons_mk (Below.trod laidOut (by kernel_rfl) (of_decide_eq_true (by kernel_rfl)) k1 bel lt1) (trodAll_cons_mk (Below.trod laidOut (by kernel_rfl) (of_decide_eq_true (by kernel_rfl)) k2 bel lt2) trodAll_mk0))), rfl, bel.frame _, fun h => by cases h⟩

noncomputable def laidHeap (os : Os) : Array Obj :=
  ((World.holding Tryd.prog os ⟨#[], #[], []⟩).heap.modify 1 (fun
      | .cells _ t frozen => .cells #[.int .u64 9223372036854775808, .int .u64 18446744073709551615] t frozen
      | o => o)).modify 0 (fun
      | .cells _ t frozen => .cells #[.int .u64 0, .int .u64 1] t frozen
      | o => o)
noncomputable def laidWorld (os : Os) : World :=
  { World.holding Tryd.prog os ⟨#[], #[], []⟩ with heap := laidHeap os }
theorem laid_met (os : Os) : laidMet Tryd.prog Rows.orientIsExactRow.laid ((laidWorld os).forCall (fun _ _ => 0) ⟨#[], #[.agg #[.int .i64 0, .int .i64 0], .agg #[.int .i64 0, .int .i64 0], .agg #[.int .i64 0, .int .i64 0]], []⟩).memory :=
  laidMet_of_run' 8 (by kernel_rfl) (by kernel_rfl)
theorem reads (os : Os) {H : Type} (enc : TypeId × Value → H) : ∃ places, DataW.whole enc Tryd.prog ((laidWorld os).forCall (fun _ _ => 0) ⟨#[], #[.agg #[.int .i64 0, .int .i64 0], .agg #[.int .i64 0, .int .i64 0], .agg #[.int .i64 0, .int .i64 0]], []⟩).memory Tryd.f3.params.toList Rows.orientIsExactSpec.vars false (#[.agg #[.int .i64 0, .int .i64 0], .agg #[.int .i64 0, .int .i64 0], .agg #[.int .i64 0, .int .i64 0]] : Array Value).toList 8 = some ([.agg [.lit (.int .i64 0), .lit (.int .i64 0)], .agg [.lit (.int .i64 0), .lit (.int .i64 0)], .agg [.lit (.int .i64 0), .lit (.int .i64 0)]], [], places) :=
  ⟨[], by kernel_rfl⟩

set_option maxRecDepth 100000 in
theorem lifted (os : Os) (started : os.Started) (H : Type) (enc : TypeId × Value → H) (F : Stop.Interp) :
    ReturnsInHanded {} Tryd.checked os 3 .any ((OpenSpec.ofChange Rows.orientIsExactSpec).preRow enc Tryd.prog Tryd.f3 Rows.orientIsExactRow.domain false Rows.orientIsExactRow.laid) (((OpenSpec.ofChange Rows.orientIsExactSpec).at F).post enc Tryd.prog Tryd.f3 false true false false) := by
  obtain ⟨places, hx⟩ := reads os enc
  refine returnsInHanded_of_row (C := Tryd.checked) (s := OpenSpec.ofChange Rows.orientIsExactSpec) own started (by kernel_rfl) Tryd.func3
    (witness_row_at (enc := enc) (C := Tryd.checked) false (laidWorld os) #[.agg #[.int .i64 0, .int .i64 0], .agg #[.int .i64 0, .int .i64 0], .agg #[.int .i64 0, .int .i64 0]] rfl (by kernel_rfl) (by kernel_rfl) (by kernel_rfl)
      (OpenSpec.preRow_of_cond 8 hx (by kernel_rfl) (fun k hk => by cases hk) (by kernel_rfl) (laid_met os))) ?_
  intro W base args ds gs before hval hW _ _ _ hL _ _
  exact contract H enc W base args ds gs before hval hW hL

theorem said : Rows.OrientIsExactSaid :=
  OpenClaim.holds_of_cond 3 Tryd.f3 rfl rfl rfl rfl rfl rfl rfl ⟨rfl, rfl, rfl, rfl, rfl⟩ rfl rfl rfl rfl rfl (by kernel_rfl) Tryd.func3 (by kernel_rfl)
    (of_decide_eq_true (by kernel_rfl)) (by unfold Func.isWrapper; first | (rw [if_pos (by decide +kernel)]; kernel_rfl) | (rw [if_neg (by decide +kernel)]; exact ⟨rfl, rfl⟩))
    (fun os started H enc _ F => by rw [OpenClaim.pre_eq_preRow]; exact lifted os started H enc F)

theorem plain (f : FuncId) (fn : Func) (hf : Tryd.pinned.checked.prog.funcNamed "geofence/geofencelaw06.OrientIsExact" = some f) (hfn : Tryd.pinned.checked.prog.funcs[f]? = some fn) :
    false = Tryd.pinned.checked.prog.looks [] ∧ ∀ (j : Nat) t, fn.params[j]? = some t → Tryd.pinned.checked.prog.wantsStandIn t = false := by
  obtain rfl : f = 3 := Option.some.inj ((show Tryd.prog.funcNamed "geofence/geofencelaw06.OrientIsExact" = some 3 by kernel_rfl).symm.trans hf) |>.symm
  obtain rfl : fn = Tryd.f3 := (Option.some.inj (Tryd.func3.symm.trans hfn)).symm
  refine ⟨by kernel_rfl, fun j t ht => ?_⟩
  rw [Tryd.params3] at ht
  have hm := Array.mem_of_getElem? ht
  simp at hm
  obtain rfl := hm
  exact (show Tryd.prog.wantsStandIn 23 = false by kernel_rfl)

/-- THE CARD -/
theorem card : Rows.OrientIsExactCardSaid :=
  Claim7.holds_tied_plain_at .later [] _ _ _ _ said (fun _ h => by cases h) (by kernel_rfl) (fun _ h => by cases h) orientIsExact_row_tie rfl ⟨rfl, rfl⟩ (by kernel_rfl) rfl plain (by kernel_rfl)
#print axioms card
end Go.Proofs.YtfjanlfbnliokaaDoor.orientIsExact
