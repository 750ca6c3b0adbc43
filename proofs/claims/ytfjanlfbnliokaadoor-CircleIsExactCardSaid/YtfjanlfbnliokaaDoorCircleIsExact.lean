/- CircleIsExact: for every input the law returns true, and each argument reads afterwards as it read before; the package variable that the row lists holds what it lists. -/
import Derived.Test.YtfjanlfbnliokaaDoorCards
import Derived.Test.YtfjanlfbnliokaaDoorTie
import Derived.Test.YtfjanlfbnliokaaDoorLaw7
import Derived.Test.YtfjanlfbnliokaaDoorOpenPt
import Derived.WalkKit
import Derived.ProofKit
import Derived.OpenShut
import Derived.Below
import Derived.Deep.DeepHandedRow
import Derived.Lib.LaidTab
namespace Go.Proofs.YtfjanlfbnliokaaDoor.circleIsExact
open Go.ChangeShapes Go.WideShapes Go.ChangeAt Go.RowKit Wd
set_option linter.unusedVariables false
set_option linter.unusedSimpArgs false

theorem own : ownKnob Tryd.prog.godebug = none := by kernel_rfl
theorem laidOut : laidOutB Tryd.prog = true := by kernel_rfl

set_option maxHeartbeats 4000000 in
theorem walk {w : World} (a0_0 a0_1 a0_2 a0_3 a0_4 a0_5 a0_6 a0_7 : Int) (w0_0 : (Lit.int .i64 a0_0).wf = true) (w0_1 : (Lit.int .i64 a0_1).wf = true) (w0_2 : (Lit.int .i64 a0_2).wf = true) (w0_3 : (Lit.int .i64 a0_3).wf = true) (w0_4 : (Lit.int .i64 a0_4).wf = true) (w0_5 : (Lit.int .i64 a0_5).wf = true) (w0_6 : (Lit.int .i64 a0_6).wf = true) (w0_7 : (Lit.int .i64 a0_7).wf = true) (hT : TabM w) :
    Calls Tryd.prog 9 #[.agg #[.int .i64 a0_0, .int .i64 a0_1, .int .i64 a0_2, .int .i64 a0_3, .int .i64 a0_4, .int .i64 a0_5, .int .i64 a0_6, .int .i64 a0_7]] w fun e w' => e = .returned (.bool true) ∧ Below w.heap.size w w' := by
  have HB0 := Lib.hid (Below.refl w.heap.size w)
  have i0_0 := isI_of_wf w0_0
  have i0_1 := isI_of_wf w0_1
  have i0_2 := isI_of_wf w0_2
  have i0_3 := isI_of_wf w0_3
  have i0_4 := isI_of_wf w0_4
  have i0_5 := isI_of_wf w0_5
  have i0_6 := isI_of_wf w0_6
  have i0_7 := isI_of_wf w0_7
  have FT := Lib.hid hT; clear hT
  have r0 := sign_range (circ a0_0 a0_1 a0_2 a0_3 a0_4 a0_5 a0_6 a0_7)
  go_enter Tryd.func9, Tryd.ntmps9
  go_wp2_with fail
  have B : Below w.heap.size w (w.alloc (.cells #[.int .i64 a0_0, .int .i64 a0_1, .int .i64 a0_2, .int .i64 a0_3, .int .i64 a0_4, .int .i64 a0_5, .int .i64 a0_6, .int .i64 a0_7] 48)) := (HB0.out.alloc HB0.out.size _)
  have C : Below w.heap.size w (w.alloc (.cells #[.int .i64 a0_0, .int .i64 a0_1, .int .i64 a0_2, .int .i64 a0_3, .int .i64 a0_4, .int .i64 a0_5, .int .i64 a0_6, .int .i64 a0_7] 48)) := ((Below.refl w.heap.size w).alloc (Nat.le_refl _) _)
  have X0 : Bx (w.alloc (.cells #[.int .i64 a0_0, .int .i64 a0_1, .int .i64 a0_2, .int .i64 a0_3, .int .i64 a0_4, .int .i64 a0_5, .int .i64 a0_6, .int .i64 a0_7] 48)) (w.heap.size) #[.int .i64 a0_0, .int .i64 a0_1, .int .i64 a0_2, .int .i64 a0_3, .int .i64 a0_4, .int .i64 a0_5, .int .i64 a0_6, .int .i64 a0_7] 48 := by simpa using (Bx.new w #[.int .i64 a0_0, .int .i64 a0_1, .int .i64 a0_2, .int .i64 a0_3, .int .i64 a0_4, .int .i64 a0_5, .int .i64 a0_6, .int .i64 a0_7] 48)
  have FT_1 := Lib.hid (FT.out.below C (Nat.le_refl _))
  have HB1 := Lib.hid B
  have FA_1 := Lib.hid X0
  clear B C X0 HB0 FT
  generalize (w.alloc (.cells #[.int .i64 a0_0, .int .i64 a0_1, .int .i64 a0_2, .int .i64 a0_3, .int .i64 a0_4, .int .i64 a0_5, .int .i64 a0_6, .int .i64 a0_7] 48)) = w1 at *
  skip
  refine (ref7_Value a0_0 a0_1 a0_2 a0_3 a0_4 a0_5 a0_6 a0_7 (show P4 a0_0 a0_1 a0_2 a0_3 a0_4 a0_5 a0_6 a0_7 from ⟨i0_0, i0_1, i0_2, i0_3, i0_4, i0_5, i0_6, i0_7⟩) _).mono ?_
  rintro e w2 ⟨⟨A1, k1, c1, rfl, b1_, N1⟩, B⟩
  have HB2 := Lib.hid (HB1.out.trans (B.mono HB1.out.size))
  have FT_2 := Lib.hid (FT_1.out.below B (Nat.le_refl _))
  have FA_2 := Lib.hid (FA_1.out.below B (Nat.le_refl _))
  have FNV_2 := Lib.hid N1
  clear B N1 HB1 FT_1 FA_1
  go_wp2_with fail
  have B : Below w.heap.size w (w2.alloc (.cells #[.int .i64 (sg (circ a0_0 a0_1 a0_2 a0_3 a0_4 a0_5 a0_6 a0_7)), .slice A1 k1 c1] 26)) := (HB2.out.alloc HB2.out.size _)
  have C : Below w2.heap.size w2 (w2.alloc (.cells #[.int .i64 (sg (circ a0_0 a0_1 a0_2 a0_3 a0_4 a0_5 a0_6 a0_7)), .slice A1 k1 c1] 26)) := ((Below.refl w2.heap.size w2).alloc (Nat.le_refl _) _)
  have X0 : Bx (w2.alloc (.cells #[.int .i64 (sg (circ a0_0 a0_1 a0_2 a0_3 a0_4 a0_5 a0_6 a0_7)), .slice A1 k1 c1] 26)) (w2.heap.size) #[.int .i64 (sg (circ a0_0 a0_1 a0_2 a0_3 a0_4 a0_5 a0_6 a0_7)), .slice A1 k1 c1] 26 := by simpa using (Bx.new w2 #[.int .i64 (sg (circ a0_0 a0_1 a0_2 a0_3 a0_4 a0_5 a0_6 a0_7)), .slice A1 k1 c1] 26)
  have FT_3 := Lib.hid (FT_2.out.below C (Nat.le_refl _))
  have FA_3 := Lib.hid (FA_2.out.below C (Nat.le_refl _))
  have FNV_3 := Lib.hid (FNV_2.out.below C (Nat.le_refl _))
  have HB3 := Lib.hid B
  have FN_3 := Lib.hid X0
  clear B C X0 HB2 FT_2 FA_2 FNV_2
  generalize (w2.alloc (.cells #[.int .i64 (sg (circ a0_0 a0_1 a0_2 a0_3 a0_4 a0_5 a0_6 a0_7)), .slice A1 k1 c1] 26)) = w3 at *
  have RB3 := Lib.hid (below_drew0 w3)
  have QS3 := Lib.hid (show w3.cell? ⟨w.heap.size, 0, none⟩ = some (.int .i64 a0_0) ∧ w3.cell? ⟨w.heap.size, 1, none⟩ = some (.int .i64 a0_1) ∧ w3.cell? ⟨w.heap.size, 2, none⟩ = some (.int .i64 a0_2) ∧ w3.cell? ⟨w.heap.size, 3, none⟩ = some (.int .i64 a0_3) ∧ w3.cell? ⟨w.heap.size, 4, none⟩ = some (.int .i64 a0_4) ∧ w3.cell? ⟨w.heap.size, 5, none⟩ = some (.int .i64 a0_5) ∧ w3.cell? ⟨w.heap.size, 6, none⟩ = some (.int .i64 a0_6) ∧ w3.cell? ⟨w.heap.size, 7, none⟩ = some (.int .i64 a0_7) ∧ w3.cell? ⟨w2.heap.size, 0, none⟩ = some (.int .i64 (sg (circ a0_0 a0_1 a0_2 a0_3 a0_4 a0_5 a0_6 a0_7))) ∧ w3.cell? ⟨w2.heap.size, 1, none⟩ = some (.slice A1 k1 c1) from ⟨FA_3.out.cell 0 (v := .int .i64 a0_0) rfl, FA_3.out.cell 1 (v := .int .i64 a0_1) rfl, FA_3.out.cell 2 (v := .int .i64 a0_2) rfl, FA_3.out.cell 3 (v := .int .i64 a0_3) rfl, FA_3.out.cell 4 (v := .int .i64 a0_4) rfl, FA_3.out.cell 5 (v := .int .i64 a0_5) rfl, FA_3.out.cell 6 (v := .int .i64 a0_6) rfl, FA_3.out.cell 7 (v := .int .i64 a0_7) rfl, FN_3.out.cell 0 (v := .int .i64 (sg (circ a0_0 a0_1 a0_2 a0_3 a0_4 a0_5 a0_6 a0_7))) rfl, FN_3.out.cell 1 (v := .slice A1 k1 c1) rfl⟩)
  have QF3 := Lib.hid (show ∀ w', Below w3.heap.size w3 w' → w'.cell? ⟨w.heap.size, 0, none⟩ = some (.int .i64 a0_0) ∧ w'.cell? ⟨w.heap.size, 1, none⟩ = some (.int .i64 a0_1) ∧ w'.cell? ⟨w.heap.size, 2, none⟩ = some (.int .i64 a0_2) ∧ w'.cell? ⟨w.heap.size, 3, none⟩ = some (.int .i64 a0_3) ∧ w'.cell? ⟨w.heap.size, 4, none⟩ = some (.int .i64 a0_4) ∧ w'.cell? ⟨w.heap.size, 5, none⟩ = some (.int .i64 a0_5) ∧ w'.cell? ⟨w.heap.size, 6, none⟩ = some (.int .i64 a0_6) ∧ w'.cell? ⟨w.heap.size, 7, none⟩ = some (.int .i64 a0_7) ∧ w'.cell? ⟨w2.heap.size, 0, none⟩ = some (.int .i64 (sg (circ a0_0 a0_1 a0_2 a0_3 a0_4 a0_5 a0_6 a0_7))) ∧ w'.cell? ⟨w2.heap.size, 1, none⟩ = some (.slice A1 k1 c1) from fun w' hb => ⟨(FA_3.out.below hb (Nat.le_refl _)).cell 0 (v := .int .i64 a0_0) rfl, (FA_3.out.below hb (Nat.le_refl _)).cell 1 (v := .int .i64 a0_1) rfl, (FA_3.out.below hb (Nat.le_refl _)).cell 2 (v := .int .i64 a0_2) rfl, (FA_3.out.below hb (Nat.le_refl _)).cell 3 (v := .int .i64 a0_3) rfl, (FA_3.out.below hb (Nat.le_refl _)).cell 4 (v := .int .i64 a0_4) rfl, (FA_3.out.below hb (Nat.le_refl _)).cell 5 (v := .int .i64 a0_5) rfl, (FA_3.out.below hb (Nat.le_refl _)).cell 6 (v := .int .i64 a0_6) rfl, (FA_3.out.below hb (Nat.le_refl _)).cell 7 (v := .int .i64 a0_7) rfl, (FN_3.out.below hb (Nat.le_refl _)).cell 0 (v := .int .i64 (sg (circ a0_0 a0_1 a0_2 a0_3 a0_4 a0_5 a0_6 a0_7))) rfl, (FN_3.out.below hb (Nat.le_refl _)).cell 1 (v := .slice A1 k1 c1) rfl⟩)
  go_region_held3 (fun w' => w'.cell? ⟨w.heap.size, 0, none⟩ = some (.int .i64 a0_0) ∧ w'.cell? ⟨w.heap.size, 1, none⟩ = some (.int .i64 a0_1) ∧ w'.cell? ⟨w.heap.size, 2, none⟩ = some (.int .i64 a0_2) ∧ w'.cell? ⟨w.heap.size, 3, none⟩ = some (.int .i64 a0_3) ∧ w'.cell? ⟨w.heap.size, 4, none⟩ = some (.int .i64 a0_4) ∧ w'.cell? ⟨w.heap.size, 5, none⟩ = some (.int .i64 a0_5) ∧ w'.cell? ⟨w.heap.size, 6, none⟩ = some (.int .i64 a0_6) ∧ w'.cell? ⟨w.heap.size, 7, none⟩ = some (.int .i64 a0_7) ∧ w'.cell? ⟨w2.heap.size, 0, none⟩ = some (.int .i64 (sg (circ a0_0 a0_1 a0_2 a0_3 a0_4 a0_5 a0_6 a0_7))) ∧ w'.cell? ⟨w2.heap.size, 1, none⟩ = some (.slice A1 k1 c1)) (first | with_reducible exact QF3.out _ RB8.out | with_reducible exact QF3.out _ RB7.out | with_reducible exact QF3.out _ RB6.out | with_reducible exact QF3.out _ RB5.out | with_reducible exact QF3.out _ RB4.out | with_reducible exact QS3.out | with_reducible exact QF3.out _ RB3.out) (first
      | (go_at_call 32; have := RB7; clear this; refine (circle_Sign a0_0 a0_1 a0_2 a0_3 a0_4 a0_5 a0_6 a0_7 (show P4 a0_0 a0_1 a0_2 a0_3 a0_4 a0_5 a0_6 a0_7 from ⟨i0_0, i0_1, i0_2, i0_3, i0_4, i0_5, i0_6, i0_7⟩) _ (FT_3.out.below RB7.out (Nat.le_refl _))).mono ?_; rintro e w8 ⟨rfl, B⟩; have RB8 := Lib.hid (RB7.out.trans (B.mono RB7.out.size)); have RV_8 := Lib.hid (RV_7.out.below B (Nat.le_refl _)); have RL_8 := Lib.hid (RL_7.out.below B (Nat.le_refl _)); clear B )
      | (go_at_call 17; have := RB6; clear this; refine (ref3_Same _ _ _ _ _ _ _ _ RV_6.out RL_6.out (fun _ _ => rfl)).mono ?_; rintro e w7 ⟨rfl, B⟩; have RB7 := Lib.hid (RB6.out.trans (B.mono RB6.out.size)); have RV_7 := Lib.hid (RV_6.out.below B (Nat.le_refl _)); have RL_7 := Lib.hid (RL_6.out.below B (Nat.le_refl _)); clear B )
      | (go_at_call 19; have := RB5; clear this; refine (ref3_Limbs _ _ _ _ _ 5 rfl _ (FNV_3.out.below RB5.out (Nat.le_refl _)) (by omega) (by omega)).mono ?_; rintro e w6 ⟨⟨VL, dL, rfl, SL⟩, B⟩; have RB6 := Lib.hid (RB5.out.trans (B.mono RB5.out.size)); have RV_6 := Lib.hid (RV_5.out.below B (Nat.le_refl _)); have RL_6 := Lib.hid SL; clear B SL)
      | (go_at_call 31; have := RB4; clear this; refine (circle_Value a0_0 a0_1 a0_2 a0_3 a0_4 a0_5 a0_6 a0_7 (show P4 a0_0 a0_1 a0_2 a0_3 a0_4 a0_5 a0_6 a0_7 from ⟨i0_0, i0_1, i0_2, i0_3, i0_4, i0_5, i0_6, i0_7⟩) _).mono ?_; rintro e w5 ⟨⟨U1, u1, rfl, S1⟩, B⟩; have RB5 := Lib.hid (RB4.out.trans (B.mono RB4.out.size)); have RV_5 := Lib.hid S1; clear B S1)
      | (go_at_call 30; have := RB3; clear this; refine (alive7 _ (FT_3.out.below RB3.out (Nat.le_refl _))).mono ?_; rintro e w4 ⟨rfl, B⟩; have RB4 := Lib.hid (RB3.out.trans (B.mono RB3.out.size)); clear B ))
  have FT_8 := Lib.hid (FT_3.out.below RB8.out (Nat.le_refl _))
  have FA_8 := Lib.hid (FA_3.out.below RB8.out (Nat.le_refl _))
  have FNV_8 := Lib.hid (FNV_3.out.below RB8.out (Nat.le_refl _))
  have FN_8 := Lib.hid (FN_3.out.below RB8.out (Nat.le_refl _))
  have HB8 := Lib.hid (HB3.out.trans (RB8.out.mono HB3.out.size))
  clear HB3 FT_3 FA_3 FNV_3 FN_3
  go_wp2_with fail
  go_ret
  exact ⟨rfl, HB8.out⟩

theorem gTab0 : Tryd.prog.globalNamed "geofence/mask.words" = some 1 := by kernel_rfl
theorem gTabType0 : (Tryd.prog.globals[1]?).map (·.type) = some 69 := by kernel_rfl
theorem cellsT0 : Tryd.prog.cellsOf 69 = 2 := by kernel_rfl
theorem cellsE0 : Tryd.prog.cellsOf 36 = 1 := by kernel_rfl
theorem tableIs0 {W : World} (h : laidMetH Tryd.prog Rows.circleIsExactRow.laid W) : Lib.TabIs Tryd.prog W "geofence/mask.words" .u64 [9223372036854775808, 18446744073709551615] :=
  Lib.tabIs_of_head (rest := _) gTab0 gTabType0 Tryd.underlying69 Tryd.underlying36 cellsE0 cellsT0 h
theorem table0 {W : World} (h : laidMetH Tryd.prog Rows.circleIsExactRow.laid W) : TabM W := ⟨(tableIs0 h).cell gTab0 0 (by decide), (tableIs0 h).cell gTab0 1 (by decide)⟩

theorem contract (H : Type) (enc : TypeId × Value → H) (W : World) (base : Nat) (args : Array Value) (ds gs : List (DataW H)) (before : List MemPlace)
    (hval : ∀ (j : Nat) t v, Tryd.f9.params[j]? = some t → args[j]? = some v → Value.okWide Tryd.prog W .any base t v)
    (hW : DataW.Whole enc Tryd.prog Tryd.f9.params.toList Rows.circleIsExactSpec.vars false W args.toList ds gs before) (hL : laidMetH Tryd.prog Rows.circleIsExactRow.laid W) :
    Calls Tryd.prog 9 args W fun e W' => ∃ v, e = .returned v ∧ Rows.circleIsExactSpec.post enc Tryd.prog Tryd.f9 false true false false W args v W' := by
  have hW' := hW
  obtain ⟨p, q, hA0, hV, rfl, hfz, hnd⟩ := hW
  have hA : DataW.TrodAll enc Tryd.prog W 0 (fun _ => true) true Tryd.f9.params.toList args.toList ds p := hA0
  rw [Tryd.params9] at hA hval
  obtain ⟨v0, vs0, d0, ds0, p0, q0, hargs, rfl, rfl, h0, r0⟩ := trodAll_cons hA
  obtain ⟨rfl, rfl, rfl⟩ := trodAll_nil r0
  obtain rfl : args = #[v0] := by cases args; simp_all
  obtain ⟨rfl, rfl⟩ := trodVars_none hV
  have k0 := h0
  have lt0 : ∀ x ∈ p0, x.block < W.heap.size := by obtain ⟨m, hm⟩ := k0; exact DataW.trod_lt m _ _ _ hm
  obtain ⟨a0_0, a0_1, a0_2, a0_3, a0_4, a0_5, a0_6, a0_7, rfl, w0_0, w0_1, w0_2, w0_3, w0_4, w0_5, w0_6, w0_7⟩ := Op.open_pts4 Tryd.underlying48 Tryd.underlying23 rfl rfl rfl rfl Tryd.underlying2 (by kernel_rfl) (by kernel_rfl) (by kernel_rfl) h0
  clear hA0
  refine (walk a0_0 a0_1 a0_2 a0_3 a0_4 a0_5 a0_6 a0_7 w0_0 w0_1 w0_2 w0_3 w0_4 w0_5 w0_6 w0_7 (table0 hL)).mono fun e W' ⟨he, bel⟩ => ?_
  subst he
  exact ⟨_, rfl, _, _, _, [], _, [], hW', trodAll_mk1 (shut_bool Tryd.underlying4 _), (trodAll_cons_mk (Below.trod laidOut (by kernel_rfl) (of_decide_eq_true (by kernel_rfl)) k0 bel lt0) trodAll_mk0), rfl, bel.frame _, fun h => by cases h⟩

noncomputable def laidHeap (os : Os) : Array Obj :=
  (World.holding Tryd.prog os ⟨#[], #[], []⟩).heap.modify 1 (fun
      | .cells _ t frozen => .cells #[.int .u64 9223372036854775808, .int .u64 18446744073709551615] t frozen
      | o => o)
noncomputable def laidWorld (os : Os) : World :=
  { World.holding Tryd.prog os ⟨#[], #[], []⟩ with heap := laidHeap os }
theorem laid_met (os : Os) : laidMet Tryd.prog Rows.circleIsExactRow.laid ((laidWorld os).forCall (fun _ _ => 0) ⟨#[], #[.agg #[.int .i64 0, .int .i64 0, .int .i64 0, .int .i64 0, .int .i64 0, .int .i64 0, .int .i64 0, .int .i64 0]], []⟩).memory :=
  laidMet_of_run' 8 (by kernel_rfl) (by kernel_rfl)
theorem reads (os : Os) {H : Type} (enc : TypeId × Value → H) : ∃ places, DataW.whole enc Tryd.prog ((laidWorld os).forCall (fun _ _ => 0) ⟨#[], #[.agg #[.int .i64 0, .int .i64 0, .int .i64 0, .int .i64 0, .int .i64 0, .int .i64 0, .int .i64 0, .int .i64 0]], []⟩).memory Tryd.f9.params.toList Rows.circleIsExactSpec.vars false (#[.agg #[.int .i64 0, .int .i64 0, .int .i64 0, .int .i64 0, .int .i64 0, .int .i64 0, .int .i64 0, .int .i64 0]] : Array Value).toList 8 = some ([.agg [.agg [.lit (.int .i64 0), .lit (.int .i64 0)], .agg [.lit (.int .i64 0), .lit (.int .i64 0)], .agg [.lit (.int .i64 0), .lit (.int .i64 0)], .agg [.lit (.int .i64 0), .lit (.int .i64 0)]]], [], places) :=
  ⟨[], by kernel_rfl⟩

set_option maxRecDepth 100000 in
theorem lifted (os : Os) (started : os.Started) (H : Type) (enc : TypeId × Value → H) (F : Stop.Interp) :
    ReturnsInHanded {} Tryd.checked os 9 .any ((OpenSpec.ofChange Rows.circleIsExactSpec).preRow enc Tryd.prog Tryd.f9 Rows.circleIsExactRow.domain false Rows.circleIsExactRow.laid) (((OpenSpec.ofChange Rows.circleIsExactSpec).at F).post enc Tryd.prog Tryd.f9 false true false false) := by
  obtain ⟨places, hx⟩ := reads os enc
  refine returnsInHanded_of_row (C := Tryd.checked) (s := OpenSpec.ofChange Rows.circleIsExactSpec) own started (by kernel_rfl) Tryd.func9
    (witness_row_at (enc := enc) (C := Tryd.checked) false (laidWorld os) #[.agg #[.int .i64 0, .int .i64 0, .int .i64 0, .int .i64 0, .int .i64 0, .int .i64 0, .int .i64 0, .int .i64 0]] rfl (by kernel_rfl) (by kernel_rfl) (by kernel_rfl)
      (OpenSpec.preRow_of_cond 8 hx (by kernel_rfl) (fun k hk => by cases hk) (by kernel_rfl) (laid_met os))) ?_
  intro W base args ds gs before hval hW _ _ _ hL _ _
  exact contract H enc W base args ds gs before hval hW hL

theorem said : Rows.CircleIsExactSaid :=
  OpenClaim.holds_of_cond 9 Tryd.f9 rfl rfl rfl rfl rfl rfl rfl ⟨rfl, rfl, rfl, rfl, rfl⟩ rfl rfl rfl rfl rfl (by kernel_rfl) Tryd.func9 (by kernel_rfl)
    (of_decide_eq_true (by kernel_rfl)) (by unfold Func.isWrapper; first | (rw [if_pos (by decide +kernel)]; kernel_rfl) | (rw [if_neg (by decide +kernel)]; exact ⟨rfl, rfl⟩))
    (fun os started H enc _ F => by rw [OpenClaim.pre_eq_preRow]; exact lifted os started H enc F)

theorem plain (f : FuncId) (fn : Func) (hf : Tryd.pinned.checked.prog.funcNamed "geofence/geofencelaw07.CircleIsExact" = some f) (hfn : Tryd.pinned.checked.prog.funcs[f]? = some fn) :
    false = Tryd.pinned.checked.prog.looks [] ∧ ∀ (j : Nat) t, fn.params[j]? = some t → Tryd.pinned.checked.prog.wantsStandIn t = false := by
  obtain rfl : f = 9 := Option.some.inj ((show Tryd.prog.funcNamed "geofence/geofencelaw07.CircleIsExact" = some 9 by kernel_rfl).symm.trans hf) |>.symm
  obtain rfl : fn = Tryd.f9 := (Option.some.inj (Tryd.func9.symm.trans hfn)).symm
  refine ⟨by kernel_rfl, fun j t ht => ?_⟩
  rw [Tryd.params9] at ht
  have hm := Array.mem_of_getElem? ht
  simp at hm
  obtain rfl := hm
  exact (show Tryd.prog.wantsStandIn 48 = false by kernel_rfl)

/-- THE CARD -/
theorem card : Rows.CircleIsExactCardSaid :=
  Claim7.holds_tied_plain_at .later [] _ _ _ _ said (fun _ h => by cases h) (by kernel_rfl) (fun _ h => by cases h) circleIsExact_row_tie rfl ⟨rfl, rfl⟩ (by kernel_rfl) rfl plain (by kernel_rfl)
#print axioms card
end Go.Proofs.YtfjanlfbnliokaaDoor.circleIsExact
