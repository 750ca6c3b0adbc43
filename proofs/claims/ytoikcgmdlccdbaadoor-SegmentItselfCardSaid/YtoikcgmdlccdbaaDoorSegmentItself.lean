/- SegmentItself: for every input the law returns true, and each argument reads afterwards as it read before; the package variable that the row lists holds what it lists. -/
import Derived.Test.YtoikcgmdlccdbaaDoorCards
import Derived.Test.YtoikcgmdlccdbaaDoorTie
import Derived.Test.YtoikcgmdlccdbaaDoorLaw8b
import Derived.Test.YtoikcgmdlccdbaaDoorMain
import Derived.Test.YtoikcgmdlccdbaaDoorOpenPt
import Derived.WalkKit
import Derived.ProofKit
import Derived.OpenShut
import Derived.Below
import Derived.Deep.DeepHandedRow
import Derived.Lib.LaidTab
import Derived.Test.YtoikcgmdlccdbaaDoorTab
namespace Go.Proofs.YtoikcgmdlccdbaaDoor.segmentItself
open Go.ChangeShapes Go.WideShapes Go.ChangeAt Go.RowKit Wd
set_option linter.unusedVariables false
set_option linter.unusedSimpArgs false

theorem own : ownKnob Tryd.prog.godebug = none := by kernel_rfl
theorem laidOut : laidOutB Tryd.prog = true := by kernel_rfl

set_option maxHeartbeats 4000000 in
theorem walk {w : World} (a0 b0 : Int) (w0 : (Lit.int .i64 a0).wf = true) (x0 : (Lit.int .i64 b0).wf = true) (a1 b1 : Int) (w1 : (Lit.int .i64 a1).wf = true) (x1 : (Lit.int .i64 b1).wf = true) (a2 b2 : Int) (w2 : (Lit.int .i64 a2).wf = true) (x2 : (Lit.int .i64 b2).wf = true) (hT : TabM w) (hO : TabO w) :
    Calls Tryd.prog 7 #[.agg #[.int .i64 a0, .int .i64 b0], .agg #[.int .i64 a1, .int .i64 b1], .agg #[.int .i64 a2, .int .i64 b2]] w fun e w' => e = .returned (.bool true) ∧ Below w.heap.size w w' := by
  have HB0 := Lib.hid (Below.refl w.heap.size w)
  have ia0 := isI_of_wf w0
  have ib0 := isI_of_wf x0
  have ia1 := isI_of_wf w1
  have ib1 := isI_of_wf x1
  have ia2 := isI_of_wf w2
  have ib2 := isI_of_wf x2
  have FT := Lib.hid hT; clear hT
  have FO := Lib.hid hO; clear hO
  go_enter Tryd.func7, Tryd.ntmps7
  go_wp2_with fail
  have B : Below w.heap.size w (((w.alloc (.cells #[.int .i64 a0, .int .i64 b0] 28)).alloc (.cells #[.int .i64 a1, .int .i64 b1] 28)).alloc (.cells #[.int .i64 a2, .int .i64 b2] 28)) := (((HB0.out.alloc HB0.out.size _).alloc (HB0.out.alloc HB0.out.size _).size _).alloc ((HB0.out.alloc HB0.out.size _).alloc (HB0.out.alloc HB0.out.size _).size _).size _)
  have C : Below w.heap.size w (((w.alloc (.cells #[.int .i64 a0, .int .i64 b0] 28)).alloc (.cells #[.int .i64 a1, .int .i64 b1] 28)).alloc (.cells #[.int .i64 a2, .int .i64 b2] 28)) := ((((Below.refl w.heap.size w).alloc (Nat.le_refl _) _).alloc (by simp; try omega) _).alloc (by simp; try omega) _)
  have X0 : Bx (((w.alloc (.cells #[.int .i64 a0, .int .i64 b0] 28)).alloc (.cells #[.int .i64 a1, .int .i64 b1] 28)).alloc (.cells #[.int .i64 a2, .int .i64 b2] 28)) (w.heap.size) #[.int .i64 a0, .int .i64 b0] 28 := by simpa using (((Bx.new w #[.int .i64 a0, .int .i64 b0] 28).alloc _).alloc _)
  have X1 : Bx (((w.alloc (.cells #[.int .i64 a0, .int .i64 b0] 28)).alloc (.cells #[.int .i64 a1, .int .i64 b1] 28)).alloc (.cells #[.int .i64 a2, .int .i64 b2] 28)) (w.heap.size + 1) #[.int .i64 a1, .int .i64 b1] 28 := by simpa using ((Bx.new (w.alloc (.cells #[.int .i64 a0, .int .i64 b0] 28)) #[.int .i64 a1, .int .i64 b1] 28).alloc _)
  have X2 : Bx (((w.alloc (.cells #[.int .i64 a0, .int .i64 b0] 28)).alloc (.cells #[.int .i64 a1, .int .i64 b1] 28)).alloc (.cells #[.int .i64 a2, .int .i64 b2] 28)) (w.heap.size + 1 + 1) #[.int .i64 a2, .int .i64 b2] 28 := by simpa using (Bx.new ((w.alloc (.cells #[.int .i64 a0, .int .i64 b0] 28)).alloc (.cells #[.int .i64 a1, .int .i64 b1] 28)) #[.int .i64 a2, .int .i64 b2] 28)
  have FT_1 := Lib.hid (FT.out.below C (Nat.le_refl _))
  have FO_1 := Lib.hid (FO.out.below C (Nat.le_refl _))
  have HB1 := Lib.hid B
  have FP_1 := Lib.hid X0
  have FQ_1 := Lib.hid X1
  have FR_1 := Lib.hid X2
  clear B C X0 X1 X2 HB0 FT FO
  generalize (((w.alloc (.cells #[.int .i64 a0, .int .i64 b0] 28)).alloc (.cells #[.int .i64 a1, .int .i64 b1] 28)).alloc (.cells #[.int .i64 a2, .int .i64 b2] 28)) = w1 at *
  skip
  refine (alive8 _ FT_1.out FO_1.out).mono ?_
  rintro e w2 ⟨rfl, B⟩
  have HB2 := Lib.hid (HB1.out.trans (B.mono HB1.out.size))
  have FT_2 := Lib.hid (FT_1.out.below B (Nat.le_refl _))
  have FO_2 := Lib.hid (FO_1.out.below B (Nat.le_refl _))
  have FP_2 := Lib.hid (FP_1.out.below B (Nat.le_refl _))
  have FQ_2 := Lib.hid (FQ_1.out.below B (Nat.le_refl _))
  have FR_2 := Lib.hid (FR_1.out.below B (Nat.le_refl _))
  clear B  HB1 FT_1 FO_1 FP_1 FQ_1 FR_1
  have vP0 := FP_2.out.cell 0 (v := .int .i64 a0) rfl
  have vP1 := FP_2.out.cell 1 (v := .int .i64 b0) rfl
  have vQ0 := FQ_2.out.cell 0 (v := .int .i64 a1) rfl
  have vQ1 := FQ_2.out.cell 1 (v := .int .i64 b1) rfl
  have vR0 := FR_2.out.cell 0 (v := .int .i64 a2) rfl
  have vR1 := FR_2.out.cell 1 (v := .int .i64 b2) rfl
  go_wp2_with fail
  refine (segment_Contains a0 b0 a1 b1 a0 b0 (show P3 a0 b0 a1 b1 a0 b0 from ⟨ia0, ib0, ia1, ib1, ia0, ib0⟩) _ FT_2.out FO_2.out).mono ?_
  rintro e w3 ⟨rfl, B⟩
  clear vP0 vP1 vQ0 vQ1 vR0 vR1
  have HB3 := Lib.hid (HB2.out.trans (B.mono HB2.out.size))
  have FT_3 := Lib.hid (FT_2.out.below B (Nat.le_refl _))
  have FO_3 := Lib.hid (FO_2.out.below B (Nat.le_refl _))
  have FP_3 := Lib.hid (FP_2.out.below B (Nat.le_refl _))
  have FQ_3 := Lib.hid (FQ_2.out.below B (Nat.le_refl _))
  have FR_3 := Lib.hid (FR_2.out.below B (Nat.le_refl _))
  clear B  HB2 FT_2 FO_2 FP_2 FQ_2 FR_2
  rw [contB_a]
  have vP0 := FP_3.out.cell 0 (v := .int .i64 a0) rfl
  have vP1 := FP_3.out.cell 1 (v := .int .i64 b0) rfl
  have vQ0 := FQ_3.out.cell 0 (v := .int .i64 a1) rfl
  have vQ1 := FQ_3.out.cell 1 (v := .int .i64 b1) rfl
  have vR0 := FR_3.out.cell 0 (v := .int .i64 a2) rfl
  have vR1 := FR_3.out.cell 1 (v := .int .i64 b2) rfl
  go_wp2_with fail
  refine (segment_Contains a0 b0 a1 b1 a1 b1 (show P3 a0 b0 a1 b1 a1 b1 from ⟨ia0, ib0, ia1, ib1, ia1, ib1⟩) _ FT_3.out FO_3.out).mono ?_
  rintro e w4 ⟨rfl, B⟩
  clear vP0 vP1 vQ0 vQ1 vR0 vR1
  have HB4 := Lib.hid (HB3.out.trans (B.mono HB3.out.size))
  have FT_4 := Lib.hid (FT_3.out.below B (Nat.le_refl _))
  have FO_4 := Lib.hid (FO_3.out.below B (Nat.le_refl _))
  have FP_4 := Lib.hid (FP_3.out.below B (Nat.le_refl _))
  have FQ_4 := Lib.hid (FQ_3.out.below B (Nat.le_refl _))
  have FR_4 := Lib.hid (FR_3.out.below B (Nat.le_refl _))
  clear B  HB3 FT_3 FO_3 FP_3 FQ_3 FR_3
  rw [contB_b]
  have vP0 := FP_4.out.cell 0 (v := .int .i64 a0) rfl
  have vP1 := FP_4.out.cell 1 (v := .int .i64 b0) rfl
  have vQ0 := FQ_4.out.cell 0 (v := .int .i64 a1) rfl
  have vQ1 := FQ_4.out.cell 1 (v := .int .i64 b1) rfl
  have vR0 := FR_4.out.cell 0 (v := .int .i64 a2) rfl
  have vR1 := FR_4.out.cell 1 (v := .int .i64 b2) rfl
  go_wp2_with fail
  refine (segment_Meets a0 b0 a1 b1 a0 b0 a1 b1 (show P4 a0 b0 a1 b1 a0 b0 a1 b1 from ⟨ia0, ib0, ia1, ib1, ia0, ib0, ia1, ib1⟩) _ FT_4.out FO_4.out).mono ?_
  rintro e w5 ⟨rfl, B⟩
  clear vP0 vP1 vQ0 vQ1 vR0 vR1
  have HB5 := Lib.hid (HB4.out.trans (B.mono HB4.out.size))
  have FT_5 := Lib.hid (FT_4.out.below B (Nat.le_refl _))
  have FO_5 := Lib.hid (FO_4.out.below B (Nat.le_refl _))
  have FP_5 := Lib.hid (FP_4.out.below B (Nat.le_refl _))
  have FQ_5 := Lib.hid (FQ_4.out.below B (Nat.le_refl _))
  have FR_5 := Lib.hid (FR_4.out.below B (Nat.le_refl _))
  clear B  HB4 FT_4 FO_4 FP_4 FQ_4 FR_4
  rw [meetB_ab]
  have vP0 := FP_5.out.cell 0 (v := .int .i64 a0) rfl
  have vP1 := FP_5.out.cell 1 (v := .int .i64 b0) rfl
  have vQ0 := FQ_5.out.cell 0 (v := .int .i64 a1) rfl
  have vQ1 := FQ_5.out.cell 1 (v := .int .i64 b1) rfl
  have vR0 := FR_5.out.cell 0 (v := .int .i64 a2) rfl
  have vR1 := FR_5.out.cell 1 (v := .int .i64 b2) rfl
  go_wp2_with fail
  refine (segment_Meets a0 b0 a1 b1 a1 b1 a2 b2 (show P4 a0 b0 a1 b1 a1 b1 a2 b2 from ⟨ia0, ib0, ia1, ib1, ia1, ib1, ia2, ib2⟩) _ FT_5.out FO_5.out).mono ?_
  rintro e w6 ⟨rfl, B⟩
  clear vP0 vP1 vQ0 vQ1 vR0 vR1
  have HB6 := Lib.hid (HB5.out.trans (B.mono HB5.out.size))
  have FT_6 := Lib.hid (FT_5.out.below B (Nat.le_refl _))
  have FO_6 := Lib.hid (FO_5.out.below B (Nat.le_refl _))
  have FP_6 := Lib.hid (FP_5.out.below B (Nat.le_refl _))
  have FQ_6 := Lib.hid (FQ_5.out.below B (Nat.le_refl _))
  have FR_6 := Lib.hid (FR_5.out.below B (Nat.le_refl _))
  clear B  HB5 FT_5 FO_5 FP_5 FQ_5 FR_5
  rw [meetB_bc]
  have vP0 := FP_6.out.cell 0 (v := .int .i64 a0) rfl
  have vP1 := FP_6.out.cell 1 (v := .int .i64 b0) rfl
  have vQ0 := FQ_6.out.cell 0 (v := .int .i64 a1) rfl
  have vQ1 := FQ_6.out.cell 1 (v := .int .i64 b1) rfl
  have vR0 := FR_6.out.cell 0 (v := .int .i64 a2) rfl
  have vR1 := FR_6.out.cell 1 (v := .int .i64 b2) rfl
  go_wp2_with fail
  refine (segment_Crosses a0 b0 a1 b1 a0 b0 a2 b2 (show P4 a0 b0 a1 b1 a0 b0 a2 b2 from ⟨ia0, ib0, ia1, ib1, ia0, ib0, ia2, ib2⟩) _ FT_6.out).mono ?_
  rintro e w7 ⟨rfl, B⟩
  clear vP0 vP1 vQ0 vQ1 vR0 vR1
  have HB7 := Lib.hid (HB6.out.trans (B.mono HB6.out.size))
  have FT_7 := Lib.hid (FT_6.out.below B (Nat.le_refl _))
  have FO_7 := Lib.hid (FO_6.out.below B (Nat.le_refl _))
  have FP_7 := Lib.hid (FP_6.out.below B (Nat.le_refl _))
  have FQ_7 := Lib.hid (FQ_6.out.below B (Nat.le_refl _))
  have FR_7 := Lib.hid (FR_6.out.below B (Nat.le_refl _))
  clear B  HB6 FT_6 FO_6 FP_6 FQ_6 FR_6
  rw [crossB_ac]
  have vP0 := FP_7.out.cell 0 (v := .int .i64 a0) rfl
  have vP1 := FP_7.out.cell 1 (v := .int .i64 b0) rfl
  have vQ0 := FQ_7.out.cell 0 (v := .int .i64 a1) rfl
  have vQ1 := FQ_7.out.cell 1 (v := .int .i64 b1) rfl
  have vR0 := FR_7.out.cell 0 (v := .int .i64 a2) rfl
  have vR1 := FR_7.out.cell 1 (v := .int .i64 b2) rfl
  go_wp2_with fail
  go_ret
  exact ⟨rfl, HB7.out⟩

theorem gTab0 : Tryd.prog.globalNamed "geofence/mask.words" = some 0 := by kernel_rfl
theorem gTabType0 : (Tryd.prog.globals[0]?).map (·.type) = some 93 := by kernel_rfl
theorem cellsT0 : Tryd.prog.cellsOf 93 = 2 := by kernel_rfl
theorem cellsE0 : Tryd.prog.cellsOf 23 = 1 := by kernel_rfl
theorem tableIs0 {W : World} (h : laidMetH Tryd.prog Rows.segmentItselfRow.laid W) : Lib.TabIs Tryd.prog W "geofence/mask.words" .u64 [9223372036854775808, 18446744073709551615] :=
  Lib.tabIs_of_head (rest := _) gTab0 gTabType0 Tryd.underlying93 Tryd.underlying23 cellsE0 cellsT0 h
theorem table0 {W : World} (h : laidMetH Tryd.prog Rows.segmentItselfRow.laid W) : TabM W := ⟨(tableIs0 h).cell gTab0 0 (by decide), (tableIs0 h).cell gTab0 1 (by decide)⟩

theorem gTab1 : Tryd.prog.globalNamed "geofence/orient.wanted" = some 1 := by kernel_rfl
theorem gTabType1 : (Tryd.prog.globals[1]?).map (·.type) = some 93 := by kernel_rfl
theorem cellsT1 : Tryd.prog.cellsOf 93 = 2 := by kernel_rfl
theorem cellsE1 : Tryd.prog.cellsOf 23 = 1 := by kernel_rfl
theorem tableIs1 {W : World} (h : laidMetH Tryd.prog Rows.segmentItselfRow.laid W) : Lib.TabIs Tryd.prog W "geofence/orient.wanted" .u64 [0, 1] :=
  Lib.tabIs_of_head (rest := _) gTab1 gTabType1 Tryd.underlying93 Tryd.underlying23 cellsE1 cellsT1 (laid_tail h)
theorem table1 {W : World} (h : laidMetH Tryd.prog Rows.segmentItselfRow.laid W) : TabO W := ⟨(tableIs1 h).cell gTab1 0 (by decide), (tableIs1 h).cell gTab1 1 (by decide)⟩

set_option maxRecDepth 100000 in
theorem contract (H : Type) (enc : TypeId × Value → H) (W : World) (base : Nat) (args : Array Value) (ds gs : List (DataW H)) (before : List MemPlace)
    (hval : ∀ (j : Nat) t v, Tryd.f7.params[j]? = some t → args[j]? = some v → Value.okWide Tryd.prog W .any base t v)
    (hW : DataW.Whole enc Tryd.prog Tryd.f7.params.toList Rows.segmentItselfSpec.vars false W args.toList ds gs before) (hL : laidMetH Tryd.prog Rows.segmentItselfRow.laid W) :
    Calls Tryd.prog 7 args W fun e W' => ∃ v, e = .returned v ∧ Rows.segmentItselfSpec.post enc Tryd.prog Tryd.f7 false true false false W args v W' := by
  have hW' := hW
  obtain ⟨p, q, hA0, hV, rfl, hfz, hnd⟩ := hW
  have hA : DataW.TrodAll enc Tryd.prog W 0 (fun _ => true) true Tryd.f7.params.toList args.toList ds p := hA0
  rw [Tryd.params7] at hA hval
  obtain ⟨v0, vs0, d0, ds0, p0, q0, hargs, rfl, rfl, h0, r0⟩ := trodAll_cons hA
  obtain ⟨v1, vs1, d1, ds1, p1, q1, rfl, rfl, rfl, h1, r1⟩ := trodAll_cons r0
  obtain ⟨v2, vs2, d2, ds2, p2, q2, rfl, rfl, rfl, h2, r2⟩ := trodAll_cons r1
  obtain ⟨rfl, rfl, rfl⟩ := trodAll_nil r2
  obtain rfl : args = #[v0, v1, v2] := by cases args; simp_all
  obtain ⟨rfl, rfl⟩ := trodVars_none hV
  have k0 := h0
  have lt0 : ∀ x ∈ p0, x.block < W.heap.size := by obtain ⟨m, hm⟩ := k0; exact DataW.trod_lt m _ _ _ hm
  have k1 := h1
  have lt1 : ∀ x ∈ p1, x.block < W.heap.size := by obtain ⟨m, hm⟩ := k1; exact DataW.trod_lt m _ _ _ hm
  have k2 := h2
  have lt2 : ∀ x ∈ p2, x.block < W.heap.size := by obtain ⟨m, hm⟩ := k2; exact DataW.trod_lt m _ _ _ hm
  obtain ⟨a0, b0, rfl, w0, x0⟩ := Op.open_pt Tryd.underlying28 rfl rfl rfl rfl Tryd.underlying2 (by kernel_rfl) (by kernel_rfl) h0
  obtain ⟨a1, b1, rfl, w1, x1⟩ := Op.open_pt Tryd.underlying28 rfl rfl rfl rfl Tryd.underlying2 (by kernel_rfl) (by kernel_rfl) h1
  obtain ⟨a2, b2, rfl, w2, x2⟩ := Op.open_pt Tryd.underlying28 rfl rfl rfl rfl Tryd.underlying2 (by kernel_rfl) (by kernel_rfl) h2
  clear hA0
  refine (walk a0 b0 w0 x0 a1 b1 w1 x1 a2 b2 w2 x2 (table0 hL) (table1 hL)).mono fun e W' ⟨he, bel⟩ => ?_
  subst he
  exact ⟨_, rfl, _, _, _, [], _, [], hW', trodAll_mk1 (shut_bool Tryd.underlying4 _), (trodAll_cons_mk (Below.trod laidOut (by kernel_rfl) (of_decide_eq_true (by kernel_rfl)) k0 bel lt0) (trodAll_cons_mk (Below.trod laidOut (by kernel_rfl) (of_decide_eq_true (by kernel_rfl)) k1 bel lt1) (trodAll_cons_mk (Below.trod laidOut (by kernel_rfl) (of_decide_eq_true (by kernel_rfl)) k2 bel lt2) trodAll_mk0))), rfl, bel.frame _, fun h => by cases h⟩

theorem joined : joinedFacts Tryd.prog 7 Tryd.f7 (OpenSpec.ofChange Rows.segmentItselfSpec).bare Rows.segmentItselfRow = true := by
  have e1 := enterIs
  have e2 := liftsIs
  have e3 := makeIs
  generalize hP : Tryd.prog = P at *
  unfold joinedFacts
  simp only [Bool.and_eq_true]
  repeat' apply And.intro
  all_goals first
    | with_reducible exact e1
    | (rw [e2]; kernel_rfl)
    | (rw [e3]; kernel_rfl)
    | (subst hP; kernel_rfl)

noncomputable def laidHeap (os : Os) : Array Obj :=
  ((World.holding Tryd.prog os ⟨#[], #[], []⟩).heap.modify 0 (fun
      | .cells _ t frozen => .cells #[.int .u64 9223372036854775808, .int .u64 18446744073709551615] t frozen
      | o => o)).modify 1 (fun
      | .cells _ t frozen => .cells #[.int .u64 0, .int .u64 1] t frozen
      | o => o)
noncomputable def laidWorld (os : Os) : World :=
  { World.holding Tryd.prog os ⟨#[], #[], []⟩ with heap := laidHeap os }
theorem laid_met (os : Os) : laidMet Tryd.prog Rows.segmentItselfRow.laid ((laidWorld os).forCall (fun _ _ => 0) ⟨#[], #[.agg #[.int .i64 0, .int .i64 0], .agg #[.int .i64 0, .int .i64 0], .agg #[.int .i64 0, .int .i64 0]], []⟩).memory :=
  laidMet_of_run' 8 (by kernel_rfl) (by kernel_rfl)
theorem reads (os : Os) {H : Type} (enc : TypeId × Value → H) : ∃ places, DataW.whole enc Tryd.prog ((laidWorld os).forCall (fun _ _ => 0) ⟨#[], #[.agg #[.int .i64 0, .int .i64 0], .agg #[.int .i64 0, .int .i64 0], .agg #[.int .i64 0, .int .i64 0]], []⟩).memory Tryd.f7.params.toList Rows.segmentItselfSpec.vars false (#[.agg #[.int .i64 0, .int .i64 0], .agg #[.int .i64 0, .int .i64 0], .agg #[.int .i64 0, .int .i64 0]] : Array Value).toList 8 = some ([.agg [.lit (.int .i64 0), .lit (.int .i64 0)], .agg [.lit (.int .i64 0), .lit (.int .i64 0)], .agg [.lit (.int .i64 0), .lit (.int .i64 0)]], [], places) :=
  ⟨[], by kernel_rfl⟩

set_option maxRecDepth 100000 in
theorem lifted (os : Os) (started : os.Started) (H : Type) (enc : TypeId × Value → H) (F : Stop.Interp) :
    ReturnsInHanded {} Tryd.checked os 7 .any ((OpenSpec.ofChange Rows.segmentItselfSpec).preRow enc Tryd.prog Tryd.f7 Rows.segmentItselfRow.domain false Rows.segmentItselfRow.laid) (((OpenSpec.ofChange Rows.segmentItselfSpec).at F).post enc Tryd.prog Tryd.f7 false true false false) := by
  obtain ⟨places, hx⟩ := reads os enc
  refine returnsInHanded_of_row (C := Tryd.checked) (s := OpenSpec.ofChange Rows.segmentItselfSpec) own started (by kernel_rfl) Tryd.func7
    (witness_row_at (enc := enc) (C := Tryd.checked) false (laidWorld os) #[.agg #[.int .i64 0, .int .i64 0], .agg #[.int .i64 0, .int .i64 0], .agg #[.int .i64 0, .int .i64 0]] rfl (by kernel_rfl) (by kernel_rfl) (by kernel_rfl)
      (OpenSpec.preRow_of_cond 8 hx (by kernel_rfl) (fun k hk => by cases hk) (by kernel_rfl) (laid_met os))) ?_
  intro W base args ds gs before hval hW _ _ _ hL _ _
  exact contract H enc W base args ds gs before hval hW hL

theorem said : Rows.SegmentItselfSaid :=
  OpenClaim.holds_of_cond 7 Tryd.f7 rfl rfl rfl rfl rfl rfl rfl ⟨rfl, rfl, rfl, rfl, rfl⟩ rfl rfl rfl rfl rfl (by kernel_rfl) Tryd.func7 (joined)
    (of_decide_eq_true (by kernel_rfl)) (by unfold Func.isWrapper; first | (rw [if_pos (by decide +kernel)]; kernel_rfl) | (rw [if_neg (by decide +kernel)]; exact ⟨rfl, rfl⟩))
    (fun os started H enc _ F => by rw [OpenClaim.pre_eq_preRow]; exact lifted os started H enc F)

theorem plain (f : FuncId) (fn : Func) (hf : Tryd.pinned.checked.prog.funcNamed "geofence/geofencelaw08.SegmentItself" = some f) (hfn : Tryd.pinned.checked.prog.funcs[f]? = some fn) :
    false = Tryd.pinned.checked.prog.looks [] ∧ ∀ (j : Nat) t, fn.params[j]? = some t → Tryd.pinned.checked.prog.wantsStandIn t = false := by
  obtain rfl : f = 7 := Option.some.inj ((show Tryd.prog.funcNamed "geofence/geofencelaw08.SegmentItself" = some 7 by kernel_rfl).symm.trans hf) |>.symm
  obtain rfl : fn = Tryd.f7 := (Option.some.inj (Tryd.func7.symm.trans hfn)).symm
  refine ⟨by kernel_rfl, fun j t ht => ?_⟩
  rw [Tryd.params7] at ht
  have hm := Array.mem_of_getElem? ht
  simp at hm
  obtain rfl := hm
  exact (show Tryd.prog.wantsStandIn 28 = false by kernel_rfl)

/-- THE CARD -/
theorem card : Rows.SegmentItselfCardSaid :=
  Claim7.holds_tied_plain_at .later [] _ _ _ _ said (fun _ h => by cases h) (by kernel_rfl) (fun _ h => by cases h) segmentItself_row_tie rfl ⟨rfl, rfl⟩ (mainText) rfl plain (by kernel_rfl)
#print axioms card
end Go.Proofs.YtoikcgmdlccdbaaDoor.segmentItself
