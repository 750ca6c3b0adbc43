/- SegmentWithin: for every input the law returns true, and each argument reads afterwards as it read before; the package variable that the row lists holds what it lists. -/
import Derived.Test.YtoikcgmdlccdbaaDoorCards
import Derived.Test.YtoikcgmdlccdbaaDoorTie
import Derived.Test.YtoikcgmdlccdbaaDoorLaw8b
import Derived.Test.YtoikcgmdlccdbaaDoorRef1
import Derived.Test.YtoikcgmdlccdbaaDoorMain
import Derived.Test.YtoikcgmdlccdbaaDoorOpenPt
import Derived.WalkKit
import Derived.ProofKit
import Derived.OpenShut
import Derived.Below
import Derived.Deep.DeepHandedRow
import Derived.Lib.LaidTab
import Derived.Test.YtoikcgmdlccdbaaDoorTab
namespace Go.Proofs.YtoikcgmdlccdbaaDoor.segmentWithin
open Go.ChangeShapes Go.WideShapes Go.ChangeAt Go.RowKit Wd
set_option linter.unusedVariables false
set_option linter.unusedSimpArgs false

theorem own : ownKnob Tryd.prog.godebug = none := by kernel_rfl
theorem laidOut : laidOutB Tryd.prog = true := by kernel_rfl

set_option maxHeartbeats 4000000 in
theorem walk {w : World} (a0 : Int) (w0 : (Lit.int .i64 a0).wf = true) (a1 : Int) (w1 : (Lit.int .i64 a1).wf = true) (a2 : Int) (w2 : (Lit.int .i64 a2).wf = true) (hT : TabM w) (hO : TabO w) :
    Calls Tryd.prog 3 #[.int .i64 a0, .int .i64 a1, .int .i64 a2] w fun e w' => e = .returned (.bool true) ∧ Below w.heap.size w w' := by
  have HB0 := Lib.hid (Below.refl w.heap.size w)
  have i0 := isI_of_wf w0
  have i1 := isI_of_wf w1
  have i2 := isI_of_wf w2
  have FT := Lib.hid hT; clear hT
  have FO := Lib.hid hO; clear hO
  go_enter Tryd.func3, Tryd.ntmps3
  go_wp2_with fail
  refine (alive8 _ FT.out FO.out).mono ?_
  rintro e w1 ⟨rfl, B⟩
  have HB1 := Lib.hid (HB0.out.trans (B.mono HB0.out.size))
  have FT_1 := Lib.hid (FT.out.below B (Nat.le_refl _))
  have FO_1 := Lib.hid (FO.out.below B (Nat.le_refl _))
  clear B  HB0 FT FO
  go_wp2_with fail
  refine (segment_Within a0 a1 a2 i0 i1 i2 _ FT_1.out).mono ?_
  rintro e w2 ⟨rfl, B⟩
  have HB2 := Lib.hid (HB1.out.trans (B.mono HB1.out.size))
  have FT_2 := Lib.hid (FT_1.out.below B (Nat.le_refl _))
  have FO_2 := Lib.hid (FO_1.out.below B (Nat.le_refl _))
  clear B  HB1 FT_1 FO_1
  go_wp2_with fail
  refine (ref8_Within a0 a1 a2 _).mono ?_
  rintro e w3 ⟨rfl, rfl⟩
  go_wp2_with fail
  refine (ref1_Mask _ _).mono ?_
  rintro e w4 ⟨rfl, rfl⟩
  go_wp2_with fail
  go_ret
  exact ⟨rfl, HB2.out⟩

theorem gTab0 : Tryd.prog.globalNamed "geofence/mask.words" = some 0 := by kernel_rfl
theorem gTabType0 : (Tryd.prog.globals[0]?).map (·.type) = some 93 := by kernel_rfl
theorem cellsT0 : Tryd.prog.cellsOf 93 = 2 := by kernel_rfl
theorem cellsE0 : Tryd.prog.cellsOf 23 = 1 := by kernel_rfl
theorem tableIs0 {W : World} (h : laidMetH Tryd.prog Rows.segmentWithinRow.laid W) : Lib.TabIs Tryd.prog W "geofence/mask.words" .u64 [9223372036854775808, 18446744073709551615] :=
  Lib.tabIs_of_head (rest := _) gTab0 gTabType0 Tryd.underlying93 Tryd.underlying23 cellsE0 cellsT0 h
theorem table0 {W : World} (h : laidMetH Tryd.prog Rows.segmentWithinRow.laid W) : TabM W := ⟨(tableIs0 h).cell gTab0 0 (by decide), (tableIs0 h).cell gTab0 1 (by decide)⟩

theorem gTab1 : Tryd.prog.globalNamed "geofence/orient.wanted" = some 1 := by kernel_rfl
theorem gTabType1 : (Tryd.prog.globals[1]?).map (·.type) = some 93 := by kernel_rfl
theorem cellsT1 : Tryd.prog.cellsOf 93 = 2 := by kernel_rfl
theorem cellsE1 : Tryd.prog.cellsOf 23 = 1 := by kernel_rfl
theorem tableIs1 {W : World} (h : laidMetH Tryd.prog Rows.segmentWithinRow.laid W) : Lib.TabIs Tryd.prog W "geofence/orient.wanted" .u64 [0, 1] :=
  Lib.tabIs_of_head (rest := _) gTab1 gTabType1 Tryd.underlying93 Tryd.underlying23 cellsE1 cellsT1 (laid_tail h)
theorem table1 {W : World} (h : laidMetH Tryd.prog Rows.segmentWithinRow.laid W) : TabO W := ⟨(tableIs1 h).cell gTab1 0 (by decide), (tableIs1 h).cell gTab1 1 (by decide)⟩

set_option maxRecDepth 100000 in
theorem contract (H : Type) (enc : TypeId × Value → H) (W : World) (base : Nat) (args : Array Value) (ds gs : List (DataW H)) (before : List MemPlace)
    (hval : ∀ (j : Nat) t v, Tryd.f3.params[j]? = some t → args[j]? = some v → Value.okWide Tryd.prog W .any base t v)
    (hW : DataW.Whole enc Tryd.prog Tryd.f3.params.toList Rows.segmentWithinSpec.vars false W args.toList ds gs before) (hL : laidMetH Tryd.prog Rows.segmentWithinRow.laid W) :
    Calls Tryd.prog 3 args W fun e W' => ∃ v, e = .returned v ∧ Rows.segmentWithinSpec.post enc Tryd.prog Tryd.f3 false true false false W args v W' := by
  have hW' := hW
  obtain ⟨p, q, hA0, hV, rfl, hfz, hnd⟩ := hW
  have hA : DataW.TrodAll enc Tryd.prog W 0 (fun _ => true) true Tryd.f3.params.toList args.toList ds p := hA0
  rw [Tryd.params3] at hA hval
  obtain ⟨v0, vs0, d0, ds0, p0, q0, hargs, rfl, rfl, h0, r0⟩ := trodAll_cons hA
  obtain ⟨v1, vs1, d1, ds1, p1, q1, rfl, rfl, rfl, h1, r1⟩ := trodAll_cons r0
  obtain ⟨v2, vs2, d2, ds2, p2, q2, rfl, rfl, rfl, h2, r2⟩ := trodAll_cons r1
  obtain ⟨rfl, rfl, rfl⟩ := trodAll_nil r2
  obtain rfl : args = #[v0, v1, v2] := by cases args; simp_all
  obtain ⟨rfl, rfl⟩ := trodVars_none hV
  have k0 := h0
  have lt0 : ∀ x ∈ p0, x.block < W.heap.size := by obtain ⟨m, hm⟩ := k0; exact DataW.trod_lt m _ _ _ hm
  have k1 := h1
  have lt1 : ∀ x ∈ p1, x.block < W.heap.size := by obtain ⟨m, hm⟩ := k1; exact DataW.trod_lt m _ _ _ hm
  have k2 := h2
  have lt2 : ∀ x ∈ p2, x.block < W.heap.size := by obtain ⟨m, hm⟩ := k2; exact DataW.trod_lt m _ _ _ hm
  obtain ⟨a0, rfl, rfl, rfl, w0⟩ := open_int Tryd.underlying2 (hval 0 2 v0 rfl rfl) h0
  obtain ⟨a1, rfl, rfl, rfl, w1⟩ := open_int Tryd.underlying2 (hval 1 2 v1 rfl rfl) h1
  obtain ⟨a2, rfl, rfl, rfl, w2⟩ := open_int Tryd.underlying2 (hval 2 2 v2 rfl rfl) h2
  clear hA0
  refine (walk a0 w0 a1 w1 a2 w2 (table0 hL) (table1 hL)).mono fun e W' ⟨he, bel⟩ => ?_
  subst he
  exact ⟨_, rfl, _, _, _, [], _, [], hW', trodAll_mk1 (shut_bool Tryd.underlying4 _), (trodAll_cons_mk (Below.trod laidOut (by kernel_rfl) (of_decide_eq_true (by kernel_rfl)) k0 bel lt0) (trodAll_cons_mk (Below.trod laidOut (by kernel_rfl) (of_decide_eq_true (by kernel_rfl)) k1 bel lt1) (trodAll_cons_mk (Below.trod laidOut (by kernel_rfl) (of_decide_eq_true (by kernel_rfl)) k2 bel lt2) trodAll_mk0))), rfl, bel.frame _, fun h => by cases h⟩

theorem joined : joinedFacts Tryd.prog 3 Tryd.f3 (OpenSpec.ofChange Rows.segmentWithinSpec).bare Rows.segmentWithinRow = true := by
  have e1 := enterIs
  have e2 := liftsIs
  have e3 := makeIs
  generalize hP : Tryd.prog = P at *
  unfold joinedFacts
  simp only [Bool.and_eq_true]
  repeat' apply And.intro
  all_goals first
    | with_reducible exact e1
    | (rw [e2]; kernel_rfl)
    | (rw [e3]; kernel_rfl)
    | (subst hP; kernel_rfl)

noncomputable def laidHeap (os : Os) : Array Obj :=
  ((World.holding Tryd.prog os ⟨#[], #[], []⟩).heap.modify 0 (fun
      | .cells _ t frozen => .cells #[.int .u64 9223372036854775808, .int .u64 18446744073709551615] t frozen
      | o => o)).modify 1 (fun
      | .cells _ t frozen => .cells #[.int .u64 0, .int .u64 1] t frozen
      | o => o)
noncomputable def laidWorld (os : Os) : World :=
  { World.holding Tryd.prog os ⟨#[], #[], []⟩ with heap := laidHeap os }
theorem laid_met (os : Os) : laidMet Tryd.prog Rows.segmentWithinRow.laid ((laidWorld os).forCall (fun _ _ => 0) ⟨#[], #[.int .i64 0, .int .i64 0, .int .i64 0], []⟩).memory :=
  laidMet_of_run' 8 (by kernel_rfl) (by kernel_rfl)
theorem reads (os : Os) {H : Type} (enc : TypeId × Value → H) : ∃ places, DataW.whole enc Tryd.prog ((laidWorld os).forCall (fun _ _ => 0) ⟨#[], #[.int .i64 0, .int .i64 0, .int .i64 0], []⟩).memory Tryd.f3.params.toList Rows.segmentWithinSpec.vars false (#[.int .i64 0, .int .i64 0, .int .i64 0] : Array Value).toList 8 = some ([.lit (.int .i64 0), .lit (.int .i64 0), .lit (.int .i64 0)], [], places) :=
  ⟨[], by kernel_rfl⟩

set_option maxRecDepth 100000 in
theorem lifted (os : Os) (started : os.Started) (H : Type) (enc : TypeId × Value → H) (F : Stop.Interp) :
    ReturnsInHanded {} Tryd.checked os 3 .any ((OpenSpec.ofChange Rows.segmentWithinSpec).preRow enc Tryd.prog Tryd.f3 Rows.segmentWithinRow.domain false Rows.segmentWithinRow.laid) (((OpenSpec.ofChange Rows.segmentWithinSpec).at F).post enc Tryd.prog Tryd.f3 false true false false) := by
  obtain ⟨places, hx⟩ := reads os enc
  refine returnsInHanded_of_row (C := Tryd.checked) (s := OpenSpec.ofChange Rows.segmentWithinSpec) own started (by kernel_rfl) Tryd.func3
    (witness_row_at (enc := enc) (C := Tryd.checked) false (laidWorld os) #[.int .i64 0, .int .i64 0, .int .i64 0] rfl (by kernel_rfl) (by kernel_rfl) (by kernel_rfl)
      (OpenSpec.preRow_of_cond 8 hx (by kernel_rfl) (fun k hk => by cases hk) (by kernel_rfl) (laid_met os))) ?_
  intro W base args ds gs before hval hW _ _ _ hL _ _
  exact contract H enc W base args ds gs before hval hW hL

theorem said : Rows.SegmentWithinSaid :=
  OpenClaim.holds_of_cond 3 Tryd.f3 rfl rfl rfl rfl rfl rfl rfl ⟨rfl, rfl, rfl, rfl, rfl⟩ rfl rfl rfl rfl rfl (by kernel_rfl) Tryd.func3 (joined)
    (of_decide_eq_true (by kernel_rfl)) (by unfold Func.isWrapper; first | (rw [if_pos (by decide +kernel)]; kernel_rfl) | (rw [if_neg (by decide +kernel)]; exact ⟨rfl, rfl⟩))
    (fun os started H enc _ F => by rw [OpenClaim.pre_eq_preRow]; exact lifted os started H enc F)

theorem plain (f : FuncId) (fn : Func) (hf : Tryd.pinned.checked.prog.funcNamed "geofence/geofencelaw08.SegmentWithin" = some f) (hfn : Tryd.pinned.checked.prog.funcs[f]? = some fn) :
    false = Tryd.pinned.checked.prog.looks [] ∧ ∀ (j : Nat) t, fn.params[j]? = some t → Tryd.pinned.checked.prog.wantsStandIn t = false := by
  obtain rfl : f = 3 := Option.some.inj ((show Tryd.prog.funcNamed "geofence/geofencelaw08.SegmentWithin" = some 3 by kernel_rfl).symm.trans hf) |>.symm
  obtain rfl : fn = Tryd.f3 := (Option.some.inj (Tryd.func3.symm.trans hfn)).symm
  refine ⟨by kernel_rfl, fun j t ht => ?_⟩
  rw [Tryd.params3] at ht
  have hm := Array.mem_of_getElem? ht
  simp at hm
  obtain rfl := hm
  exact (show Tryd.prog.wantsStandIn 2 = false by kernel_rfl)

/-- THE CARD -/
theorem card : Rows.SegmentWithinCardSaid :=
  Claim7.holds_tied_plain_at .later [] _ _ _ _ said (fun _ h => by cases h) (by kernel_rfl) (fun _ h => by cases h) segmentWithin_row_tie rfl ⟨rfl, rfl⟩ (mainText) rfl plain (by kernel_rfl)
#print axioms card
end Go.Proofs.YtoikcgmdlccdbaaDoor.segmentWithin
