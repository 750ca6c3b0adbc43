/- DiscEvents: for every input the law returns true, and each argument reads afterwards as it read before; the package variable that the row lists holds what it lists. -/
import Derived.Test.YtoikcgmdlccdbaaDoorCards
import Derived.Test.YtoikcgmdlccdbaaDoorTie
import Derived.Test.YtoikcgmdlccdbaaDoorLaw15
import Derived.Test.YtoikcgmdlccdbaaDoorDiscT
import Derived.Test.YtoikcgmdlccdbaaDoorPts
import Derived.Test.YtoikcgmdlccdbaaDoorMain
import Derived.Test.YtoikcgmdlccdbaaDoorOpenPt
import Derived.WalkKit
import Derived.ProofKit
import Derived.OpenShut
import Derived.Below
import Derived.Deep.DeepHandedRow
import Derived.Lib.LaidTab
namespace Go.Proofs.YtoikcgmdlccdbaaDoor.discEvents
open Go.ChangeShapes Go.WideShapes Go.ChangeAt Go.RowKit Wd
set_option linter.unusedVariables false
set_option linter.unusedSimpArgs false

theorem own : ownKnob Tryd.prog.godebug = none := by kernel_rfl
theorem laidOut : laidOutB Tryd.prog = true := by kernel_rfl

set_option maxHeartbeats 4000000 in
theorem walk {w : World} (A0 : Option Addr) (n0 c0 : Nat) (f0 g0 : Nat → Int) (s0 : Pts w A0 n0 c0 f0 g0) (a1 b1 : Int) (w1 : (Lit.int .i64 a1).wf = true) (x1 : (Lit.int .i64 b1).wf = true) (hT : TabM w) :
    Calls Tryd.prog 14 #[.slice A0 n0 c0, .agg #[.int .i64 a1, .int .i64 b1]] w fun e w' => e = .returned (.bool true) ∧ Below w.heap.size w w' := by
  have HB0 := Lib.hid (Below.refl w.heap.size w)
  have ia1 := isI_of_wf w1
  have ib1 := isI_of_wf x1
  have FT := Lib.hid hT; clear hT
  by_cases hn : n0 = 3
  rotate_left
  · go_enter Tryd.func14, Tryd.ntmps14
    go_wp2_with fail
    have B : Below w.heap.size w (w.alloc (.cells #[.int .i64 a1, .int .i64 b1] 28)) := (HB0.out.alloc HB0.out.size _)
    have C : Below w.heap.size w (w.alloc (.cells #[.int .i64 a1, .int .i64 b1] 28)) := ((Below.refl w.heap.size w).alloc (Nat.le_refl _) _)
    have X0 : Bx (w.alloc (.cells #[.int .i64 a1, .int .i64 b1] 28)) (w.heap.size) #[.int .i64 a1, .int .i64 b1] 28 := by simpa using (Bx.new w #[.int .i64 a1, .int .i64 b1] 28)
    have FT_1 := Lib.hid (FT.out.below C (Nat.le_refl _))
    have HB1 := Lib.hid B
    have FP_1 := Lib.hid X0
    clear B C X0 HB0 FT
    generalize (w.alloc (.cells #[.int .i64 a1, .int .i64 b1] 28)) = w1 at *
    refine (tape_New w1).mono ?_
    rintro e w2 ⟨T, m, rfl, hW, B, hmw⟩
    have HB2 := Lib.hid (HB1.out.trans (B.mono HB1.out.size)); have FK := Lib.hid hW; have B12 := Lib.hid B; have HMW := Lib.hid hmw
    have FT_2 := Lib.hid (FT_1.out.below B (Nat.le_refl _))
    have FP_2 := Lib.hid (FP_1.out.below B (Nat.le_refl _))
    clear hW B hmw B12 HMW HB1 FT_1 FP_1
    have hn3 : ¬ ((n0 : Int) = 3) := by omega
    go_wp2_with fail
    refine (disc_ValidTN (some ⟨T, 0, none⟩) A0 n0 c0 hn _).mono ?_
    rintro e w3 ⟨rfl, B⟩
    have HB3 := Lib.hid (HB2.out.trans (B.mono HB2.out.size))
    have FT_3 := Lib.hid (FT_2.out.below B (Nat.le_refl _))
    have FP_3 := Lib.hid (FP_2.out.below B (Nat.le_refl _))
    have FK_3 := Lib.hid (FK.out.below B (Nat.le_refl _))
    clear B  HB2 FT_2 FP_2 FK
    have vP0 := FP_3.out.cell 0 (v := .int .i64 a1) rfl
    have vP1 := FP_3.out.cell 1 (v := .int .i64 b1) rfl
    go_wp2_with fail
    refine (disc_LocateTN (some ⟨T, 0, none⟩) A0 n0 c0 hn a1 b1 _).mono ?_
    rintro e w4 ⟨rfl, B⟩
    clear vP0 vP1
    have HB4 := Lib.hid (HB3.out.trans (B.mono HB3.out.size))
    have FT_4 := Lib.hid (FT_3.out.below B (Nat.le_refl _))
    have FP_4 := Lib.hid (FP_3.out.below B (Nat.le_refl _))
    have FK_4 := Lib.hid (FK_3.out.below B (Nat.le_refl _))
    clear B  HB3 FT_3 FP_3 FK_3
    go_wp2_with fail
    refine (alive15 _ FT_4.out).mono ?_
    rintro e w5 ⟨rfl, B⟩
    have HB5 := Lib.hid (HB4.out.trans (B.mono HB4.out.size))
    have FT_5 := Lib.hid (FT_4.out.below B (Nat.le_refl _))
    have FP_5 := Lib.hid (FP_4.out.below B (Nat.le_refl _))
    have FK_5 := Lib.hid (FK_4.out.below B (Nat.le_refl _))
    clear B  HB4 FT_4 FP_4 FK_4
    go_wp2_with fail
    refine (tape_Events _ _ _ [] (Nat.zero_le _) _ FK_5.out).mono ?_
    rintro e w6 ⟨⟨A', c', rfl, hE⟩, B⟩
    have HB6 := Lib.hid (HB5.out.trans (B.mono HB5.out.size))
    have FT_6 := Lib.hid (FT_5.out.below B (Nat.le_refl _))
    have FP_6 := Lib.hid (FP_5.out.below B (Nat.le_refl _))
    have FK_6 := Lib.hid (FK_5.out.below B (Nat.le_refl _))
    have FE_6 := Lib.hid hE
    clear B hE HB5 FT_5 FP_5 FK_5
    go_wp2_with fail
    refine (ref10_Same_eq _ none _ 0 [] (Nat.zero_le _) _ FE_6.out ⟨Nat.le_refl _, Nat.zero_le _, fun h => absurd h (Nat.lt_irrefl _)⟩).mono ?_
    rintro e w7 ⟨rfl, B⟩
    have HB7 := Lib.hid (HB6.out.trans (B.mono HB6.out.size))
    have FT_7 := Lib.hid (FT_6.out.below B (Nat.le_refl _))
    have FP_7 := Lib.hid (FP_6.out.below B (Nat.le_refl _))
    have FK_7 := Lib.hid (FK_6.out.below B (Nat.le_refl _))
    have FE_7 := Lib.hid (FE_6.out.below B (Nat.le_refl _))
    clear B  HB6 FT_6 FP_6 FK_6 FE_6
    go_wp2_with fail
    go_ret
    exact ⟨rfl, HB7.out⟩
  subst hn
  have ht := s0.t3; have hp := s0.p3
  clear s0
  generalize f0 0 = ax at *; generalize g0 0 = ay at *; generalize f0 1 = bx at *; generalize g0 1 = b_ at *; generalize f0 2 = cx at *; generalize g0 2 = cy at *
  have hp4 : P4 ax ay bx b_ cx cy a1 b1 := ⟨hp.a, hp.b, hp.c, hp.d, hp.e, hp.f, ia1, ib1⟩
  have FX := Lib.hid ht
  clear ht
  go_enter Tryd.func14, Tryd.ntmps14
  go_wp2_with fail
  have B : Below w.heap.size w (w.alloc (.cells #[.int .i64 a1, .int .i64 b1] 28)) := (HB0.out.alloc HB0.out.size _)
  have C : Below w.heap.size w (w.alloc (.cells #[.int .i64 a1, .int .i64 b1] 28)) := ((Below.refl w.heap.size w).alloc (Nat.le_refl _) _)
  have X0 : Bx (w.alloc (.cells #[.int .i64 a1, .int .i64 b1] 28)) (w.heap.size) #[.int .i64 a1, .int .i64 b1] 28 := by simpa using (Bx.new w #[.int .i64 a1, .int .i64 b1] 28)
  have FT_1 := Lib.hid (FT.out.below C (Nat.le_refl _))
  have FX_1 := Lib.hid (FX.out.below C (Nat.le_refl _))
  have HB1 := Lib.hid B
  have FP_1 := Lib.hid X0
  clear B C X0 HB0 FT FX
  generalize (w.alloc (.cells #[.int .i64 a1, .int .i64 b1] 28)) = w1 at *
  refine (tape_New w1).mono ?_
  rintro e w2 ⟨T, m, rfl, hW, B, hmw⟩
  have HB2 := Lib.hid (HB1.out.trans (B.mono HB1.out.size)); have FK := Lib.hid hW; have B12 := Lib.hid B; have HMW := Lib.hid hmw
  have FT_2 := Lib.hid (FT_1.out.below B (Nat.le_refl _))
  have FX_2 := Lib.hid (FX_1.out.below B (Nat.le_refl _))
  have FP_2 := Lib.hid (FP_1.out.below B (Nat.le_refl _))
  clear hW B hmw FT_2 FX_2 FP_2
  have HTL := Lib.hid (show T < w2.heap.size from by obtain ⟨_, _, _, h, _⟩ := FK.out.hT; exact h.lt)
  go_wp2_with fail
  refine (disc_ValidT3 w1 T m [] (Nat.zero_le _) A0 c0 ax ay bx b_ cx cy hp w2 FT_1.out FX_1.out B12.out FK.out HTL.out).mono ?_
  rintro e w3 ⟨rfl, hb3, ht3, hs3⟩
  have B13 := Lib.hid hb3; have K3 := Lib.hid ht3; have T3_ := Lib.hid (Nat.lt_of_lt_of_le HTL.out hs3); clear hb3 ht3 hs3
  have zp := FP_1.out.below B13.out (Nat.le_refl _); have z0 := zp.cell 0 (v := .int .i64 a1) rfl; have z1 := zp.cell 1 (v := .int .i64 b1) rfl; clear zp
  go_wp2_with fail
  refine (disc_LocateT3 w1 T m [(4, 0, 2)] (by simp) A0 c0 ax ay bx b_ cx cy a1 b1 hp4 w3 FT_1.out FX_1.out B13.out K3.out T3_.out).mono ?_
  rintro e w4 ⟨rfl, hb4, ht4, hs4⟩
  have FT_4 := Lib.hid (FT_1.out.below hb4 (Nat.le_refl _)); have FK_4 := Lib.hid (show TapeW w1.heap.size w4 T m [(4, 0, 2), (6, 0, 0)] from ht4); have HB4 := Lib.hid (HB1.out.trans (hb4.mono HB1.out.size))
  clear hb4 ht4 hs4 z0 z1 B13 K3 T3_ HB2 FK B12 HMW HTL HB1 FT_1 FX_1 FP_1
  go_wp2_with fail
  have B : Below w.heap.size w (w4.alloc (.cells #[.int .i64 4, .int .i64 0, .int .i64 2, .int .i64 6, .int .i64 0, .int .i64 0] 51)) := (HB4.out.alloc HB4.out.size _)
  have C : Below w4.heap.size w4 (w4.alloc (.cells #[.int .i64 4, .int .i64 0, .int .i64 2, .int .i64 6, .int .i64 0, .int .i64 0] 51)) := ((Below.refl w4.heap.size w4).alloc (Nat.le_refl _) _)
  have X0 : Bx (w4.alloc (.cells #[.int .i64 4, .int .i64 0, .int .i64 2, .int .i64 6, .int .i64 0, .int .i64 0] 51)) (w4.heap.size) #[.int .i64 4, .int .i64 0, .int .i64 2, .int .i64 6, .int .i64 0, .int .i64 0] 51 := by simpa using (Bx.new w4 #[.int .i64 4, .int .i64 0, .int .i64 2, .int .i64 6, .int .i64 0, .int .i64 0] 51)
  have FT_5 := Lib.hid (FT_4.out.below C (Nat.le_refl _))
  have FK_5 := Lib.hid (FK_4.out.below C (Nat.le_refl _))
  have HB5 := Lib.hid B
  have FV_5 := Lib.hid X0
  clear B C X0 HB4 FT_4 FK_4
  generalize (w4.alloc (.cells #[.int .i64 4, .int .i64 0, .int .i64 2, .int .i64 6, .int .i64 0, .int .i64 0] 51)) = w5 at *
  have HEV := Lib.hid (show EvS w5 (some ⟨w4.heap.size, 0, none⟩) 2 [(4, 0, 2), (6, 0, 0)] from ⟨Nat.le_refl _, by decide, fun _ => ⟨w4.heap.size, 0, rfl, FV_5.out.lt, fun j u hj => by rw [Nat.zero_add]; exact FV_5.out.cell j (by simpa [evL, evC] using hj)⟩⟩)
  skip
  refine (alive15 _ FT_5.out).mono ?_
  rintro e w6 ⟨rfl, B⟩
  have HB6 := Lib.hid (HB5.out.trans (B.mono HB5.out.size))
  have FT_6 := Lib.hid (FT_5.out.below B (Nat.le_refl _))
  have FK_6 := Lib.hid (FK_5.out.below B (Nat.le_refl _))
  have FV_6 := Lib.hid (HEV.out.below B (Nat.le_refl _))
  clear B  HB5 FT_5 FK_5 HEV
  go_wp2_with fail
  refine (tape_Events _ _ _ [(4, 0, 2), (6, 0, 0)] (by simp) _ FK_6.out).mono ?_
  rintro e w7 ⟨⟨A', c', rfl, hE⟩, B⟩
  have HB7 := Lib.hid (HB6.out.trans (B.mono HB6.out.size))
  have FT_7 := Lib.hid (FT_6.out.below B (Nat.le_refl _))
  have FK_7 := Lib.hid (FK_6.out.below B (Nat.le_refl _))
  have FV_7 := Lib.hid (FV_6.out.below B (Nat.le_refl _))
  have FE_7 := Lib.hid hE
  clear B hE HB6 FT_6 FK_6 FV_6
  go_wp2_with fail
  refine (ref10_Same_eq _ _ _ _ [(4, 0, 2), (6, 0, 0)] (by simp) _ FE_7.out FV_7.out).mono ?_
  rintro e w8 ⟨rfl, B⟩
  have HB8 := Lib.hid (HB7.out.trans (B.mono HB7.out.size))
  have FT_8 := Lib.hid (FT_7.out.below B (Nat.le_refl _))
  have FK_8 := Lib.hid (FK_7.out.below B (Nat.le_refl _))
  have FV_8 := Lib.hid (FV_7.out.below B (Nat.le_refl _))
  have FE_8 := Lib.hid (FE_7.out.below B (Nat.le_refl _))
  clear B  HB7 FT_7 FK_7 FV_7 FE_7
  go_wp2_with fail
  go_ret
  exact ⟨rfl, HB8.out⟩

theorem gTab0 : Tryd.prog.globalNamed "geofence/mask.words" = some 0 := by kernel_rfl
theorem gTabType0 : (Tryd.prog.globals[0]?).map (·.type) = some 93 := by kernel_rfl
theorem cellsT0 : Tryd.prog.cellsOf 93 = 2 := by kernel_rfl
theorem cellsE0 : Tryd.prog.cellsOf 23 = 1 := by kernel_rfl
theorem tableIs0 {W : World} (h : laidMetH Tryd.prog Rows.discEventsRow.laid W) : Lib.TabIs Tryd.prog W "geofence/mask.words" .u64 [9223372036854775808, 18446744073709551615] :=
  Lib.tabIs_of_head (rest := _) gTab0 gTabType0 Tryd.underlying93 Tryd.underlying23 cellsE0 cellsT0 h
theorem table0 {W : World} (h : laidMetH Tryd.prog Rows.discEventsRow.laid W) : TabM W := ⟨(tableIs0 h).cell gTab0 0 (by decide), (tableIs0 h).cell gTab0 1 (by decide)⟩

set_option maxRecDepth 100000 in
theorem contract (H : Type) (enc : TypeId × Value → H) (W : World) (base : Nat) (args : Array Value) (ds gs : List (DataW H)) (before : List MemPlace)
    (hval : ∀ (j : Nat) t v, Tryd.f14.params[j]? = some t → args[j]? = some v → Value.okWide Tryd.prog W .any base t v)
    (hW : DataW.Whole enc Tryd.prog Tryd.f14.params.toList Rows.discEventsSpec.vars false W args.toList ds gs before) (hL : laidMetH Tryd.prog Rows.discEventsRow.laid W) :
    Calls Tryd.prog 14 args W fun e W' => ∃ v, e = .returned v ∧ Rows.discEventsSpec.post enc Tryd.prog Tryd.f14 false true false false W args v W' := by
  have hW' := hW
  obtain ⟨p, q, hA0, hV, rfl, hfz, hnd⟩ := hW
  have hA : DataW.TrodAll enc Tryd.prog W 0 (fun _ => true) true Tryd.f14.params.toList args.toList ds p := hA0
  rw [Tryd.params14] at hA hval
  obtain ⟨v0, vs0, d0, ds0, p0, q0, hargs, rfl, rfl, h0, r0⟩ := trodAll_cons hA
  obtain ⟨v1, vs1, d1, ds1, p1, q1, rfl, rfl, rfl, h1, r1⟩ := trodAll_cons r0
  obtain ⟨rfl, rfl, rfl⟩ := trodAll_nil r1
  obtain rfl : args = #[v0, v1] := by cases args; simp_all
  obtain ⟨rfl, rfl⟩ := trodVars_none hV
  have k0 := h0
  have lt0 : ∀ x ∈ p0, x.block < W.heap.size := by obtain ⟨m, hm⟩ := k0; exact DataW.trod_lt m _ _ _ hm
  have k1 := h1
  have lt1 : ∀ x ∈ p1, x.block < W.heap.size := by obtain ⟨m, hm⟩ := k1; exact DataW.trod_lt m _ _ _ hm
  obtain ⟨A0, n0, c0, rfl⟩ := okWide_slice Tryd.underlying35 (hval 0 35 v0 rfl rfl)
  obtain ⟨f0, g0, s0⟩ := Op.open_ptsl (w := W) Tryd.underlying35 Tryd.underlying28 rfl rfl rfl rfl Tryd.underlying2 (by kernel_rfl) (by kernel_rfl) h0
  obtain ⟨a1, b1, rfl, w1, x1⟩ := Op.open_pt Tryd.underlying28 rfl rfl rfl rfl Tryd.underlying2 (by kernel_rfl) (by kernel_rfl) h1
  clear hA0
  refine (walk A0 n0 c0 f0 g0 s0 a1 b1 w1 x1 (table0 hL)).mono fun e W' ⟨he, bel⟩ => ?_
  subst he
  exact ⟨_, rfl, _, _, _, [], _, [], hW', trodAll_mk1 (shut_bool Tryd.underlying4 _), (trodAll_cons_mk (Below.trod laidOut (by kernel_rfl) (of_decide_eq_true (by kernel_rfl)) k0 bel lt0) (trodAll_cons_mk (Below.trod laidOut (by kernel_rfl) (of_decide_eq_true (by kernel_rfl)) k1 bel lt1) trodAll_mk0)), rfl, bel.frame _, fun h => by cases h⟩

theorem joined : joinedFacts Tryd.prog 14 Tryd.f14 (OpenSpec.ofChange Rows.discEventsSpec).bare Rows.discEventsRow = true := by
  have e1 := enterIs
  have e2 := liftsIs
  have e3 := makeIs
  generalize hP : Tryd.prog = P at *
  unfold joinedFacts
  simp only [Bool.and_eq_true]
  repeat' apply And.intro
  all_goals first
    | with_reducible exact e1
    | (rw [e2]; kernel_rfl)
    | (rw [e3]; kernel_rfl)
    | (subst hP; kernel_rfl)

noncomputable def laidHeap (os : Os) : Array Obj :=
  (World.holding Tryd.prog os ⟨#[], #[], []⟩).heap.modify 0 (fun
      | .cells _ t frozen => .cells #[.int .u64 9223372036854775808, .int .u64 18446744073709551615] t frozen
      | o => o)
noncomputable def laidWorld (os : Os) : World :=
  { World.holding Tryd.prog os ⟨#[], #[], []⟩ with heap := laidHeap os }
theorem laid_met (os : Os) : laidMet Tryd.prog Rows.discEventsRow.laid ((laidWorld os).forCall (fun _ _ => 0) ⟨#[], #[.slice none 0 0, .agg #[.int .i64 0, .int .i64 0]], []⟩).memory :=
  laidMet_of_run' 8 (by kernel_rfl) (by kernel_rfl)
theorem reads (os : Os) {H : Type} (enc : TypeId × Value → H) : ∃ places, DataW.whole enc Tryd.prog ((laidWorld os).forCall (fun _ _ => 0) ⟨#[], #[.slice none 0 0, .agg #[.int .i64 0, .int .i64 0]], []⟩).memory Tryd.f14.params.toList Rows.discEventsSpec.vars false (#[.slice none 0 0, .agg #[.int .i64 0, .int .i64 0]] : Array Value).toList 8 = some ([.nil, .agg [.lit (.int .i64 0), .lit (.int .i64 0)]], [], places) :=
  ⟨[], by kernel_rfl⟩

set_option maxRecDepth 100000 in
theorem lifted (os : Os) (started : os.Started) (H : Type) (enc : TypeId × Value → H) (F : Stop.Interp) :
    ReturnsInHanded {} Tryd.checked os 14 .any ((OpenSpec.ofChange Rows.discEventsSpec).preRow enc Tryd.prog Tryd.f14 Rows.discEventsRow.domain false Rows.discEventsRow.laid) (((OpenSpec.ofChange Rows.discEventsSpec).at F).post enc Tryd.prog Tryd.f14 false true false false) := by
  obtain ⟨places, hx⟩ := reads os enc
  refine returnsInHanded_of_row (C := Tryd.checked) (s := OpenSpec.ofChange Rows.discEventsSpec) own started (by kernel_rfl) Tryd.func14
    (witness_row_at (enc := enc) (C := Tryd.checked) false (laidWorld os) #[.slice none 0 0, .agg #[.int .i64 0, .int .i64 0]] rfl (by kernel_rfl) (by kernel_rfl) (by kernel_rfl)
      (OpenSpec.preRow_of_cond 8 hx (by kernel_rfl) (fun k hk => by cases hk) (by kernel_rfl) (laid_met os))) ?_
  intro W base args ds gs before hval hW _ _ _ hL _ _
  exact contract H enc W base args ds gs before hval hW hL

theorem said : Rows.DiscEventsSaid :=
  OpenClaim.holds_of_cond 14 Tryd.f14 rfl rfl rfl rfl rfl rfl rfl ⟨rfl, rfl, rfl, rfl, rfl⟩ rfl rfl rfl rfl rfl (by kernel_rfl) Tryd.func14 (joined)
    (of_decide_eq_true (by kernel_rfl)) (by unfold Func.isWrapper; first | (rw [if_pos (by decide +kernel)]; kernel_rfl) | (rw [if_neg (by decide +kernel)]; exact ⟨rfl, rfl⟩))
    (fun os started H enc _ F => by rw [OpenClaim.pre_eq_preRow]; exact lifted os started H enc F)

theorem plain (f : FuncId) (fn : Func) (hf : Tryd.pinned.checked.prog.funcNamed "geofence/geofencelaw15.DiscEvents" = some f) (hfn : Tryd.pinned.checked.prog.funcs[f]? = some fn) :
    false = Tryd.pinned.checked.prog.looks [] ∧ ∀ (j : Nat) t, fn.params[j]? = some t → Tryd.pinned.checked.prog.wantsStandIn t = false := by
  obtain rfl : f = 14 := Option.some.inj ((show Tryd.prog.funcNamed "geofence/geofencelaw15.DiscEvents" = some 14 by kernel_rfl).symm.trans hf) |>.symm
  obtain rfl : fn = Tryd.f14 := (Option.some.inj (Tryd.func14.symm.trans hfn)).symm
  refine ⟨by kernel_rfl, fun j t ht => ?_⟩
  rw [Tryd.params14] at ht
  have hm := Array.mem_of_getElem? ht
  simp at hm
  rcases hm with rfl | rfl
  · exact (show Tryd.prog.wantsStandIn 35 = false by kernel_rfl)
  · exact (show Tryd.prog.wantsStandIn 28 = false by kernel_rfl)

/-- THE CARD -/
theorem card : Rows.DiscEventsCardSaid :=
  Claim7.holds_tied_plain_at .later [] _ _ _ _ said (fun _ h => by cases h) (by kernel_rfl) (fun _ h => by cases h) discEvents_row_tie rfl ⟨rfl, rfl⟩ (mainText) rfl plain (by kernel_rfl)
#print axioms card
end Go.Proofs.YtoikcgmdlccdbaaDoor.discEvents
