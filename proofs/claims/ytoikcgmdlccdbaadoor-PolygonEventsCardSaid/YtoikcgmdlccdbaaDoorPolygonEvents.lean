/- PolygonEvents: for every input the law returns true, and each argument reads afterwards as it read before; the package variable that the row lists holds what it lists. -/
import Derived.Test.YtoikcgmdlccdbaaDoorCards
import Derived.Test.YtoikcgmdlccdbaaDoorTie
import Derived.Test.YtoikcgmdlccdbaaDoorLaw14
import Derived.Test.YtoikcgmdlccdbaaDoorPolyLT
import Derived.Test.YtoikcgmdlccdbaaDoorPolyVT
import Derived.Test.YtoikcgmdlccdbaaDoorRefEv
import Derived.Test.YtoikcgmdlccdbaaDoorPts
import Derived.Test.YtoikcgmdlccdbaaDoorMain
import Derived.Test.YtoikcgmdlccdbaaDoorOpenPt
import Derived.WalkKit
import Derived.ProofKit
import Derived.OpenShut
import Derived.Below
import Derived.Deep.DeepHandedRow
import Derived.Lib.LaidTab
namespace Go.Proofs.YtoikcgmdlccdbaaDoor.polygonEvents
open Go.ChangeShapes Go.WideShapes Go.ChangeAt Go.RowKit Wd
set_option linter.unusedVariables false
set_option linter.unusedSimpArgs false

theorem own : ownKnob Tryd.prog.godebug = none := by kernel_rfl
theorem laidOut : laidOutB Tryd.prog = true := by kernel_rfl

set_option maxHeartbeats 4000000 in
theorem walk {w : World} (A0 : Option Addr) (n0 c0 : Nat) (f0 g0 : Nat → Int) (s0 : Pts w A0 n0 c0 f0 g0) (a1 b1 : Int) (w1 : (Lit.int .i64 a1).wf = true) (x1 : (Lit.int .i64 b1).wf = true) (hT : TabM w) :
    Calls Tryd.prog 19 #[.slice A0 n0 c0, .agg #[.int .i64 a1, .int .i64 b1]] w fun e w' => e = .returned (.bool true) ∧ Below w.heap.size w w' := by
  have HB0 := Lib.hid (Below.refl w.heap.size w)
  have ia1 := isI_of_wf w1
  have ib1 := isI_of_wf x1
  have FT := Lib.hid hT; clear hT
  have FX := Lib.hid s0; have hm0 := Nat.le_trans s0.cap s0.max; clear s0
  by_cases h70 : 70 < n0
  · have h71 : (70 : Int) < n0 := by omega
    go_enter Tryd.func19, Tryd.ntmps19
    go_wp2_with fail
    have B : Below w.heap.size w (w.alloc (.cells #[.int .i64 a1, .int .i64 b1] 28)) := (HB0.out.alloc HB0.out.size _)
    have C : Below w.heap.size w (w.alloc (.cells #[.int .i64 a1, .int .i64 b1] 28)) := ((Below.refl w.heap.size w).alloc (Nat.le_refl _) _)
    have X0 : Bx (w.alloc (.cells #[.int .i64 a1, .int .i64 b1] 28)) (w.heap.size) #[.int .i64 a1, .int .i64 b1] 28 := by simpa using (Bx.new w #[.int .i64 a1, .int .i64 b1] 28)
    have FT_1 := Lib.hid (FT.out.below C (Nat.le_refl _))
    have FX_1 := Lib.hid (FX.out.below C (Nat.le_refl _))
    have HB1 := Lib.hid B
    have FP_1 := Lib.hid X0
    clear B C X0 HB0 FT FX
    generalize (w.alloc (.cells #[.int .i64 a1, .int .i64 b1] 28)) = w1 at *
    skip
    refine (alive14 _ FT_1.out).mono ?_
    rintro e w2 ⟨rfl, B⟩
    have HB2 := Lib.hid (HB1.out.trans (B.mono HB1.out.size))
    have FT_2 := Lib.hid (FT_1.out.below B (Nat.le_refl _))
    have FX_2 := Lib.hid (FX_1.out.below B (Nat.le_refl _))
    have FP_2 := Lib.hid (FP_1.out.below B (Nat.le_refl _))
    clear B  HB1 FT_1 FX_1 FP_1
    go_wp2_with fail
    go_ret
    exact ⟨rfl, HB2.out⟩
  · have h71 : ¬ ((70 : Int) < n0) := by omega
    have hn70 : n0 ≤ 70 := by omega
    go_enter Tryd.func19, Tryd.ntmps19
    go_wp2_with fail
    have B : Below w.heap.size w (w.alloc (.cells #[.int .i64 a1, .int .i64 b1] 28)) := (HB0.out.alloc HB0.out.size _)
    have C : Below w.heap.size w (w.alloc (.cells #[.int .i64 a1, .int .i64 b1] 28)) := ((Below.refl w.heap.size w).alloc (Nat.le_refl _) _)
    have X0 : Bx (w.alloc (.cells #[.int .i64 a1, .int .i64 b1] 28)) (w.heap.size) #[.int .i64 a1, .int .i64 b1] 28 := by simpa using (Bx.new w #[.int .i64 a1, .int .i64 b1] 28)
    have FT_1 := Lib.hid (FT.out.below C (Nat.le_refl _))
    have FX_1 := Lib.hid (FX.out.below C (Nat.le_refl _))
    have HB1 := Lib.hid B
    have FP_1 := Lib.hid X0
    clear B C X0 HB0 FT FX
    generalize (w.alloc (.cells #[.int .i64 a1, .int .i64 b1] 28)) = w1 at *
    refine (tape_NewV w1).mono ?_
    rintro e w2 ⟨T, m, rfl, N2, lT, lm, B2⟩
    have B12 := Lib.hid B2; have NT := Lib.hid N2; have LT := Lib.hid lT; have LM := Lib.hid lm; clear B2 N2 lT lm
    go_wp2_with fail
    refine (tape_NewV w2).mono ?_
    rintro e w3 ⟨U, k, rfl, N3, lU, lk, B3⟩
    have B23 := Lib.hid B3; have NU := Lib.hid N3; have LU := Lib.hid lU; have LK := Lib.hid lk; clear B3 N3 lU lk
    have B13 := Lib.hid (B12.out.trans (B23.out.mono B12.out.size))
    have K3 := Lib.hid (TapeV.ofNew (n0 := w1.heap.size) (nr := w3.heap.size) (NT.out.below B23.out (Nat.le_refl _)) LT.out LM.out B13.out.size (Nat.le_refl _))
    have TU := Lib.hid NT.out.ltT; have MU := Lib.hid NT.out.ltm
    go_wp2_with fail
    refine (polygon_ValidT w1 T m w3.heap.size _ n0 _ f0 g0 hn70 w3 FT_1.out FX_1.out B13.out K3.out).mono ?_
    rintro e w4 ⟨rfl, hb4, ht4, hq4⟩
    have B14 := Lib.hid hb4; have K4 := Lib.hid ht4.weak
    have hN4 : NewT w4 U k := NU.out.kept hq4.fr NU.out.ltT NU.out.ltm (by have := TU.out; have := LU.out; omega) (by have := MU.out; have := LU.out; omega) (by have := TU.out; have := LK.out; omega) (by have := MU.out; have := LK.out; omega)
    have N4 := Lib.hid hN4
    have V4 := Lib.hid (TapeV.ofNew (n0 := w1.heap.size) (nr := w4.heap.size) hN4 (Nat.le_trans B12.out.size LU.out) (Nat.le_trans B12.out.size LK.out) B14.out.size (Nat.le_refl _))
    clear hb4 ht4 hq4 hN4
    have zp := FP_1.out.below B14.out (Nat.le_refl _); have z0 := zp.cell 0 (v := .int .i64 a1) rfl; have z1 := zp.cell 1 (v := .int .i64 b1) rfl; clear zp
    go_wp2_with fail
    refine (polygon_LocateT w1 U k w4.heap.size _ n0 _ f0 g0 a1 b1 ia1 ib1 hn70 w4 FT_1.out FX_1.out B14.out V4.out).mono ?_
    rintro e w5 ⟨rfl, hb5, ht5, hq5⟩
    have hTT : T ≠ U := by have := TU.out; have := LU.out; omega
    have hMM : m ≠ k := by have := MU.out; have := LK.out; omega
    have FK_5 := Lib.hid (K4.out.kept hq5.fr (Nat.le_refl _) N4.out.hT N4.out.hm hTT hMM)
    have FU_5 := Lib.hid ht5.weak
    have FT_5 := Lib.hid (FT_1.out.below hb5 (Nat.le_refl _)); have HB5 := Lib.hid (HB1.out.trans (hb5.mono HB1.out.size))
    clear hb5 ht5 hq5 hTT hMM z0 z1 B12 NT LT LM B23 NU LU LK B13 K3 TU MU B14 K4 N4 V4 HB1 FT_1 FX_1 FP_1
    have hve : (valEvs n0 (eds n0)).length ≤ 100000 := valEvs_le hn70
    have hle : (locEvs n0 (eds n0)).length ≤ 100000 := locEvs_le hn70
    go_wp2_with fail
    refine (alive14 _ FT_5.out).mono ?_
    rintro e w6 ⟨rfl, B⟩
    have HB6 := Lib.hid (HB5.out.trans (B.mono HB5.out.size))
    have FT_6 := Lib.hid (FT_5.out.below B (Nat.le_refl _))
    have FK_6 := Lib.hid (FK_5.out.below B (Nat.le_refl _))
    have FU_6 := Lib.hid (FU_5.out.below B (Nat.le_refl _))
    clear B  HB5 FT_5 FK_5 FU_5
    go_wp2_with fail
    refine (tape_Events _ _ _ (valEvs n0 (eds n0)) hve _ FK_6.out).mono ?_
    rintro e w7 ⟨⟨A', c', rfl, hE⟩, B⟩
    have HB7 := Lib.hid (HB6.out.trans (B.mono HB6.out.size))
    have FT_7 := Lib.hid (FT_6.out.below B (Nat.le_refl _))
    have FK_7 := Lib.hid (FK_6.out.below B (Nat.le_refl _))
    have FU_7 := Lib.hid (FU_6.out.below B (Nat.le_refl _))
    have FE_7 := Lib.hid hE
    clear B hE HB6 FT_6 FK_6 FU_6
    go_wp2_with fail
    refine (ref14_ValidEvents n0 hn70 _).mono ?_
    rintro e w8 ⟨⟨A2, c2, rfl, hV⟩, B⟩
    have HB8 := Lib.hid (HB7.out.trans (B.mono HB7.out.size))
    have FT_8 := Lib.hid (FT_7.out.below B (Nat.le_refl _))
    have FK_8 := Lib.hid (FK_7.out.below B (Nat.le_refl _))
    have FU_8 := Lib.hid (FU_7.out.below B (Nat.le_refl _))
    have FE_8 := Lib.hid (FE_7.out.below B (Nat.le_refl _))
    have FV_8 := Lib.hid hV
    clear B hV HB7 FT_7 FK_7 FU_7 FE_7
    go_wp2_with fail
    refine (ref10_Same_eq _ _ _ _ (valEvs n0 (eds n0)) hve _ FE_8.out FV_8.out).mono ?_
    rintro e w9 ⟨rfl, B⟩
    have HB9 := Lib.hid (HB8.out.trans (B.mono HB8.out.size))
    have FT_9 := Lib.hid (FT_8.out.below B (Nat.le_refl _))
    have FK_9 := Lib.hid (FK_8.out.below B (Nat.le_refl _))
    have FU_9 := Lib.hid (FU_8.out.below B (Nat.le_refl _))
    have FE_9 := Lib.hid (FE_8.out.below B (Nat.le_refl _))
    have FV_9 := Lib.hid (FV_8.out.below B (Nat.le_refl _))
    clear B  HB8 FT_8 FK_8 FU_8 FE_8 FV_8
    go_wp2_with fail
    refine (tape_Events _ _ _ (locEvs n0 (eds n0)) hle _ FU_9.out).mono ?_
    rintro e w10 ⟨⟨A3, c3, rfl, hE⟩, B⟩
    have HB10 := Lib.hid (HB9.out.trans (B.mono HB9.out.size))
    have FT_10 := Lib.hid (FT_9.out.below B (Nat.le_refl _))
    have FK_10 := Lib.hid (FK_9.out.below B (Nat.le_refl _))
    have FU_10 := Lib.hid (FU_9.out.below B (Nat.le_refl _))
    have FE_10 := Lib.hid hE
    clear B hE HB9 FT_9 FK_9 FU_9
    go_wp2_with fail
    refine (ref14_LocateEvents n0 hn70 _).mono ?_
    rintro e w11 ⟨⟨A4, c4, rfl, hV⟩, B⟩
    have HB11 := Lib.hid (HB10.out.trans (B.mono HB10.out.size))
    have FT_11 := Lib.hid (FT_10.out.below B (Nat.le_refl _))
    have FK_11 := Lib.hid (FK_10.out.below B (Nat.le_refl _))
    have FU_11 := Lib.hid (FU_10.out.below B (Nat.le_refl _))
    have FE_11 := Lib.hid (FE_10.out.below B (Nat.le_refl _))
    have FV_11 := Lib.hid hV
    clear B hV HB10 FT_10 FK_10 FU_10 FE_10
    go_wp2_with fail
    refine (ref10_Same_eq _ _ _ _ (locEvs n0 (eds n0)) hle _ FE_11.out FV_11.out).mono ?_
    rintro e w12 ⟨rfl, B⟩
    have HB12 := Lib.hid (HB11.out.trans (B.mono HB11.out.size))
    have FT_12 := Lib.hid (FT_11.out.below B (Nat.le_refl _))
    have FK_12 := Lib.hid (FK_11.out.below B (Nat.le_refl _))
    have FU_12 := Lib.hid (FU_11.out.below B (Nat.le_refl _))
    have FE_12 := Lib.hid (FE_11.out.below B (Nat.le_refl _))
    have FV_12 := Lib.hid (FV_11.out.below B (Nat.le_refl _))
    clear B  HB11 FT_11 FK_11 FU_11 FE_11 FV_11
    go_wp2_with fail
    go_ret
    exact ⟨rfl, HB12.out⟩

theorem gTab0 : Tryd.prog.globalNamed "geofence/mask.words" = some 0 := by kernel_rfl
theorem gTabType0 : (Tryd.prog.globals[0]?).map (·.type) = some 93 := by kernel_rfl
theorem cellsT0 : Tryd.prog.cellsOf 93 = 2 := by kernel_rfl
theorem cellsE0 : Tryd.prog.cellsOf 23 = 1 := by kernel_rfl
theorem tableIs0 {W : World} (h : laidMetH Tryd.prog Rows.polygonEventsRow.laid W) : Lib.TabIs Tryd.prog W "geofence/mask.words" .u64 [9223372036854775808, 18446744073709551615] :=
  Lib.tabIs_of_head (rest := _) gTab0 gTabType0 Tryd.underlying93 Tryd.underlying23 cellsE0 cellsT0 h
theorem table0 {W : World} (h : laidMetH Tryd.prog Rows.polygonEventsRow.laid W) : TabM W := ⟨(tableIs0 h).cell gTab0 0 (by decide), (tableIs0 h).cell gTab0 1 (by decide)⟩

set_option maxRecDepth 100000 in
theorem contract (H : Type) (enc : TypeId × Value → H) (W : World) (base : Nat) (args : Array Value) (ds gs : List (DataW H)) (before : List MemPlace)
    (hval : ∀ (j : Nat) t v, Tryd.f19.params[j]? = some t → args[j]? = some v → Value.okWide Tryd.prog W .any base t v)
    (hW : DataW.Whole enc Tryd.prog Tryd.f19.params.toList Rows.polygonEventsSpec.vars false W args.toList ds gs before) (hL : laidMetH Tryd.prog Rows.polygonEventsRow.laid W) :
    Calls Tryd.prog 19 args W fun e W' => ∃ v, e = .returned v ∧ Rows.polygonEventsSpec.post enc Tryd.prog Tryd.f19 false true false false W args v W' := by
  have hW' := hW
  obtain ⟨p, q, hA0, hV, rfl, hfz, hnd⟩ := hW
  have hA : DataW.TrodAll enc Tryd.prog W 0 (fun _ => true) true Tryd.f19.params.toList args.toList ds p := hA0
  rw [Tryd.params19] at hA hval
  obtain ⟨v0, vs0, d0, ds0, p0, q0, hargs, rfl, rfl, h0, r0⟩ := trodAll_cons hA
  obtain ⟨v1, vs1, d1, ds1, p1, q1, rfl, rfl, rfl, h1, r1⟩ := trodAll_cons r0
  obtain ⟨rfl, rfl, rfl⟩ := trodAll_nil r1
  obtain rfl : args = #[v0, v1] := by cases args; simp_all
  obtain ⟨rfl, rfl⟩ := trodVars_none hV
  have k0 := h0
  have lt0 : ∀ x ∈ p0, x.block < W.heap.size := by obtain ⟨m, hm⟩ := k0; exact DataW.trod_lt m _ _ _ hm
  have k1 := h1
  have lt1 : ∀ x ∈ p1, x.block < W.heap.size := by obtain ⟨m, hm⟩ := k1; exact DataW.trod_lt m _ _ _ hm
  obtain ⟨A0, n0, c0, rfl⟩ := okWide_slice Tryd.underlying35 (hval 0 35 v0 rfl rfl)
  obtain ⟨f0, g0, s0⟩ := Op.open_ptsl (w := W) Tryd.underlying35 Tryd.underlying28 rfl rfl rfl rfl Tryd.underlying2 (by kernel_rfl) (by kernel_rfl) h0
  obtain ⟨a1, b1, rfl, w1, x1⟩ := Op.open_pt Tryd.underlying28 rfl rfl rfl rfl Tryd.underlying2 (by kernel_rfl) (by kernel_rfl) h1
  clear hA0
  refine (walk A0 n0 c0 f0 g0 s0 a1 b1 w1 x1 (table0 hL)).mono fun e W' ⟨he, bel⟩ => ?_
  subst he
  exact ⟨_, rfl, _, _, _, [], _, [], hW', trodAll_mk1 (shut_bool Tryd.underlying4 _), (trodAll_cons_mk (Below.trod laidOut (by kernel_rfl) (of_decide_eq_true (by kernel_rfl)) k0 bel lt0) (trodAll_cons_mk (Below.trod laidOut (by kernel_rfl) (of_decide_eq_true (by kernel_rfl)) k1 bel lt1) trodAll_mk0)), rfl, bel.frame _, fun h => by cases h⟩

theorem joined : joinedFacts Tryd.prog 19 Tryd.f19 (OpenSpec.ofChange Rows.polygonEventsSpec).bare Rows.polygonEventsRow = true := by
  have e1 := enterIs
  have e2 := liftsIs
  have e3 := makeIs
  generalize hP : Tryd.prog = P at *
  unfold joinedFacts
  simp only [Bool.and_eq_true]
  repeat' apply And.intro
  all_goals first
    | with_reducible exact e1
    | (rw [e2]; kernel_rfl)
    | (rw [e3]; kernel_rfl)
    | (subst hP; kernel_rfl)

noncomputable def laidHeap (os : Os) : Array Obj :=
  (World.holding Tryd.prog os ⟨#[], #[], []⟩).heap.modify 0 (fun
      | .cells _ t frozen => .cells #[.int .u64 9223372036854775808, .int .u64 18446744073709551615] t frozen
      | o => o)
noncomputable def laidWorld (os : Os) : World :=
  { World.holding Tryd.prog os ⟨#[], #[], []⟩ with heap := laidHeap os }
theorem laid_met (os : Os) : laidMet Tryd.prog Rows.polygonEventsRow.laid ((laidWorld os).forCall (fun _ _ => 0) ⟨#[], #[.slice none 0 0, .agg #[.int .i64 0, .int .i64 0]], []⟩).memory :=
  laidMet_of_run' 8 (by kernel_rfl) (by kernel_rfl)
theorem reads (os : Os) {H : Type} (enc : TypeId × Value → H) : ∃ places, DataW.whole enc Tryd.prog ((laidWorld os).forCall (fun _ _ => 0) ⟨#[], #[.slice none 0 0, .agg #[.int .i64 0, .int .i64 0]], []⟩).memory Tryd.f19.params.toList Rows.polygonEventsSpec.vars false (#[.slice none 0 0, .agg #[.int .i64 0, .int .i64 0]] : Array Value).toList 8 = some ([.nil, .agg [.lit (.int .i64 0), .lit (.int .i64 0)]], [], places) :=
  ⟨[], by kernel_rfl⟩

set_option maxRecDepth 100000 in
theorem lifted (os : Os) (started : os.Started) (H : Type) (enc : TypeId × Value → H) (F : Stop.Interp) :
    ReturnsInHanded {} Tryd.checked os 19 .any ((OpenSpec.ofChange Rows.polygonEventsSpec).preRow enc Tryd.prog Tryd.f19 Rows.polygonEventsRow.domain false Rows.polygonEventsRow.laid) (((OpenSpec.ofChange Rows.polygonEventsSpec).at F).post enc Tryd.prog Tryd.f19 false true false false) := by
  obtain ⟨places, hx⟩ := reads os enc
  refine returnsInHanded_of_row (C := Tryd.checked) (s := OpenSpec.ofChange Rows.polygonEventsSpec) own started (by kernel_rfl) Tryd.func19
    (witness_row_at (enc := enc) (C := Tryd.checked) false (laidWorld os) #[.slice none 0 0, .agg #[.int .i64 0, .int .i64 0]] rfl (by kernel_rfl) (by kernel_rfl) (by kernel_rfl)
      (OpenSpec.preRow_of_cond 8 hx (by kernel_rfl) (fun k hk => by cases hk) (by kernel_rfl) (laid_met os))) ?_
  intro W base args ds gs before hval hW _ _ _ hL _ _
  exact contract H enc W base args ds gs before hval hW hL

theorem said : Rows.PolygonEventsSaid :=
  OpenClaim.holds_of_cond 19 Tryd.f19 rfl rfl rfl rfl rfl rfl rfl ⟨rfl, rfl, rfl, rfl, rfl⟩ rfl rfl rfl rfl rfl (by kernel_rfl) Tryd.func19 (joined)
    (of_decide_eq_true (by kernel_rfl)) (by unfold Func.isWrapper; first | (rw [if_pos (by decide +kernel)]; kernel_rfl) | (rw [if_neg (by decide +kernel)]; exact ⟨rfl, rfl⟩))
    (fun os started H enc _ F => by rw [OpenClaim.pre_eq_preRow]; exact lifted os started H enc F)

theorem plain (f : FuncId) (fn : Func) (hf : Tryd.pinned.checked.prog.funcNamed "geofence/geofencelaw14.PolygonEvents" = some f) (hfn : Tryd.pinned.checked.prog.funcs[f]? = some fn) :
    false = Tryd.pinned.checked.prog.looks [] ∧ ∀ (j : Nat) t, fn.params[j]? = some t → Tryd.pinned.checked.prog.wantsStandIn t = false := by
  obtain rfl : f = 19 := Option.some.inj ((show Tryd.prog.funcNamed "geofence/geofencelaw14.PolygonEvents" = some 19 by kernel_rfl).symm.trans hf) |>.symm
  obtain rfl : fn = Tryd.f19 := (Option.some.inj (Tryd.func19.symm.trans hfn)).symm
  refine ⟨by kernel_rfl, fun j t ht => ?_⟩
  rw [Tryd.params19] at ht
  have hm := Array.mem_of_getElem? ht
  simp at hm
  rcases hm with rfl | rfl
  · exact (show Tryd.prog.wantsStandIn 35 = false by kernel_rfl)
  · exact (show Tryd.prog.wantsStandIn 28 = false by kernel_rfl)

/-- THE CARD -/
theorem card : Rows.PolygonEventsCardSaid :=
  Claim7.holds_tied_plain_at .later [] _ _ _ _ said (fun _ h => by cases h) (by kernel_rfl) (fun _ h => by cases h) polygonEvents_row_tie rfl ⟨rfl, rfl⟩ (mainText) rfl plain (by kernel_rfl)
#print axioms card
end Go.Proofs.YtoikcgmdlccdbaaDoor.polygonEvents
