/- CircleAlternates: for every input the law returns true, and each argument reads afterwards as it read before; the package variable that the row lists holds what it lists. -/
import Derived.Test.YtfjanlfbnliokaaDoorCards
import Derived.Test.YtfjanlfbnliokaaDoorTie
import Derived.Test.YtfjanlfbnliokaaDoorAlt0
import Derived.Test.YtfjanlfbnliokaaDoorAlt1
import Derived.Test.YtfjanlfbnliokaaDoorAlt2
import Derived.Test.YtfjanlfbnliokaaDoorAlt3
import Derived.Test.YtfjanlfbnliokaaDoorOpenPt
import Derived.WalkKit
import Derived.ProofKit
import Derived.OpenShut
import Derived.Below
import Derived.Deep.DeepHandedRow
import Derived.Lib.LaidTab
namespace Go.Proofs.YtfjanlfbnliokaaDoor.circleAlternates
open Go.ChangeShapes Go.WideShapes Go.ChangeAt Go.RowKit Wd
set_option linter.unusedVariables false
set_option linter.unusedSimpArgs false

theorem own : ownKnob Tryd.prog.godebug = none := by kernel_rfl
theorem laidOut : laidOutB Tryd.prog = true := by kernel_rfl

set_option maxHeartbeats 4000000 in
theorem walk {w : World} (a0_0 a0_1 a0_2 a0_3 a0_4 a0_5 a0_6 a0_7 : Int) (w0_0 : (Lit.int .i64 a0_0).wf = true) (w0_1 : (Lit.int .i64 a0_1).wf = true) (w0_2 : (Lit.int .i64 a0_2).wf = true) (w0_3 : (Lit.int .i64 a0_3).wf = true) (w0_4 : (Lit.int .i64 a0_4).wf = true) (w0_5 : (Lit.int .i64 a0_5).wf = true) (w0_6 : (Lit.int .i64 a0_6).wf = true) (w0_7 : (Lit.int .i64 a0_7).wf = true) (a1 : Int) (w1 : (Lit.int .u8 a1).wf = true) (a2 : Int) (w2 : (Lit.int .u8 a2).wf = true) (hT : TabM w) :
    Calls Tryd.prog 11 #[.agg #[.int .i64 a0_0, .int .i64 a0_1, .int .i64 a0_2, .int .i64 a0_3, .int .i64 a0_4, .int .i64 a0_5, .int .i64 a0_6, .int .i64 a0_7], .int .u8 a1, .int .u8 a2] w fun e w' => e = .returned (.bool true) ∧ Below w.heap.size w w' := by
  have hb : ∀ {x : Int}, (Lit.int .u8 x).wf = true → 0 ≤ x.tmod 4 ∧ x.tmod 4 ≤ 3 := fun {x} h => by
    have h0 : 0 ≤ x := by
      have hmin : IntKind.u8.min = 0 := rfl
      simp only [Lit.wf, Bool.and_eq_true, decide_eq_true_eq] at h
      omega
    rw [tmod_eq_if]; split <;> omega
  have b1 := hb w1; have b2 := hb w2
  rcases (by omega : a1.tmod 4 = 0 ∨ a1.tmod 4 = 1 ∨ a1.tmod 4 = 2 ∨ a1.tmod 4 = 3) with e1 | e1 | e1 | e1 <;> rcases (by omega : a2.tmod 4 = 0 ∨ a2.tmod 4 = 1 ∨ a2.tmod 4 = 2 ∨ a2.tmod 4 = 3) with e2 | e2 | e2 | e2
  · exact alt7_00 a0_0 a0_1 a0_2 a0_3 a0_4 a0_5 a0_6 a0_7 w0_0 w0_1 w0_2 w0_3 w0_4 w0_5 w0_6 w0_7 a1 w1 a2 w2 hT e1 e2
  · exact alt7_01 a0_0 a0_1 a0_2 a0_3 a0_4 a0_5 a0_6 a0_7 w0_0 w0_1 w0_2 w0_3 w0_4 w0_5 w0_6 w0_7 a1 w1 a2 w2 hT e1 e2
  · exact alt7_02 a0_0 a0_1 a0_2 a0_3 a0_4 a0_5 a0_6 a0_7 w0_0 w0_1 w0_2 w0_3 w0_4 w0_5 w0_6 w0_7 a1 w1 a2 w2 hT e1 e2
  · exact alt7_03 a0_0 a0_1 a0_2 a0_3 a0_4 a0_5 a0_6 a0_7 w0_0 w0_1 w0_2 w0_3 w0_4 w0_5 w0_6 w0_7 a1 w1 a2 w2 hT e1 e2
  · exact alt7_10 a0_0 a0_1 a0_2 a0_3 a0_4 a0_5 a0_6 a0_7 w0_0 w0_1 w0_2 w0_3 w0_4 w0_5 w0_6 w0_7 a1 w1 a2 w2 hT e1 e2
  · exact alt7_11 a0_0 a0_1 a0_2 a0_3 a0_4 a0_5 a0_6 a0_7 w0_0 w0_1 w0_2 w0_3 w0_4 w0_5 w0_6 w0_7 a1 w1 a2 w2 hT e1 e2
  · exact alt7_12 a0_0 a0_1 a0_2 a0_3 a0_4 a0_5 a0_6 a0_7 w0_0 w0_1 w0_2 w0_3 w0_4 w0_5 w0_6 w0_7 a1 w1 a2 w2 hT e1 e2
  · exact alt7_13 a0_0 a0_1 a0_2 a0_3 a0_4 a0_5 a0_6 a0_7 w0_0 w0_1 w0_2 w0_3 w0_4 w0_5 w0_6 w0_7 a1 w1 a2 w2 hT e1 e2
  · exact alt7_20 a0_0 a0_1 a0_2 a0_3 a0_4 a0_5 a0_6 a0_7 w0_0 w0_1 w0_2 w0_3 w0_4 w0_5 w0_6 w0_7 a1 w1 a2 w2 hT e1 e2
  · exact alt7_21 a0_0 a0_1 a0_2 a0_3 a0_4 a0_5 a0_6 a0_7 w0_0 w0_1 w0_2 w0_3 w0_4 w0_5 w0_6 w0_7 a1 w1 a2 w2 hT e1 e2
  · exact alt7_22 a0_0 a0_1 a0_2 a0_3 a0_4 a0_5 a0_6 a0_7 w0_0 w0_1 w0_2 w0_3 w0_4 w0_5 w0_6 w0_7 a1 w1 a2 w2 hT e1 e2
  · exact alt7_23 a0_0 a0_1 a0_2 a0_3 a0_4 a0_5 a0_6 a0_7 w0_0 w0_1 w0_2 w0_3 w0_4 w0_5 w0_6 w0_7 a1 w1 a2 w2 hT e1 e2
  · exact alt7_30 a0_0 a0_1 a0_2 a0_3 a0_4 a0_5 a0_6 a0_7 w0_0 w0_1 w0_2 w0_3 w0_4 w0_5 w0_6 w0_7 a1 w1 a2 w2 hT e1 e2
  · exact alt7_31 a0_0 a0_1 a0_2 a0_3 a0_4 a0_5 a0_6 a0_7 w0_0 w0_1 w0_2 w0_3 w0_4 w0_5 w0_6 w0_7 a1 w1 a2 w2 hT e1 e2
  · exact alt7_32 a0_0 a0_1 a0_2 a0_3 a0_4 a0_5 a0_6 a0_7 w0_0 w0_1 w0_2 w0_3 w0_4 w0_5 w0_6 w0_7 a1 w1 a2 w2 hT e1 e2
  · exact alt7_33 a0_0 a0_1 a0_2 a0_3 a0_4 a0_5 a0_6 a0_7 w0_0 w0_1 w0_2 w0_3 w0_4 w0_5 w0_6 w0_7 a1 w1 a2 w2 hT e1 e2

theorem gTab0 : Tryd.prog.globalNamed "geofence/mask.words" = some 1 := by kernel_rfl
theorem gTabType0 : (Tryd.prog.globals[1]?).map (·.type) = some 69 := by kernel_rfl
theorem cellsT0 : Tryd.prog.cellsOf 69 = 2 := by kernel_rfl
theorem cellsE0 : Tryd.prog.cellsOf 36 = 1 := by kernel_rfl
theorem tableIs0 {W : World} (h : laidMetH Tryd.prog Rows.circleAlternatesRow.laid W) : Lib.TabIs Tryd.prog W "geofence/mask.words" .u64 [9223372036854775808, 18446744073709551615] :=
  Lib.tabIs_of_head (rest := _) gTab0 gTabType0 Tryd.underlying69 Tryd.underlying36 cellsE0 cellsT0 h
theorem table0 {W : World} (h : laidMetH Tryd.prog Rows.circleAlternatesRow.laid W) : TabM W := ⟨(tableIs0 h).cell gTab0 0 (by decide), (tableIs0 h).cell gTab0 1 (by decide)⟩

set_option maxRecDepth 100000 in
theorem contract (H : Type) (enc : TypeId × Value → H) (W : World) (base : Nat) (args : Array Value) (ds gs : List (DataW H)) (before : List MemPlace)
    (hval : ∀ (j : Nat) t v, Tryd.f11.params[j]? = some t → args[j]? = some v → Value.okWide Tryd.prog W .any base t v)
    (hW : DataW.Whole enc Tryd.prog Tryd.f11.params.toList Rows.circleAlternatesSpec.vars false W args.toList ds gs before) (hL : laidMetH Tryd.prog Rows.circleAlternatesRow.laid W) :
    Calls Tryd.prog 11 args W fun e W' => ∃ v, e = .returned v ∧ Rows.circleAlternatesSpec.post enc Tryd.prog Tryd.f11 false true false false W args v W' := by
  have hW' := hW
  obtain ⟨p, q, hA0, hV, rfl, hfz, hnd⟩ := hW
  have hA : DataW.TrodAll enc Tryd.prog W 0 (fun _ => true) true Tryd.f11.params.toList args.toList ds p := hA0
  rw [Tryd.params11] at hA hval
  obtain ⟨v0, vs0, d0, ds0, p0, q0, hargs, rfl, rfl, h0, r0⟩ := trodAll_cons hA
  obtain ⟨v1, vs1, d1, ds1, p1, q1, rfl, rfl, rfl, h1, r1⟩ := trodAll_cons r0
  obtain ⟨v2, vs2, d2, ds2, p2, q2, rfl, rfl, rfl, h2, r2⟩ := trodAll_cons r1
  obtain ⟨rfl, rfl, rfl⟩ := trodAll_nil r2
  obtain rfl : args = #[v0, v1, v2] := by cases args; simp_all
  obtain ⟨rfl, rfl⟩ := trodVars_none hV
  have k0 := h0
  have lt0 : ∀ x ∈ p0, x.block < W.heap.size := by obtain ⟨m, hm⟩ := k0; exact DataW.trod_lt m _ _ _ hm
  have k1 := h1
  have lt1 : ∀ x ∈ p1, x.block < W.heap.size := by obtain ⟨m, hm⟩ := k1; exact DataW.trod_lt m _ _ _ hm
  have k2 := h2
  have lt2 : ∀ x ∈ p2, x.block < W.heap.size := by obtain ⟨m, hm⟩ := k2; exact DataW.trod_lt m _ _ _ hm
  obtain ⟨a0_0, a0_1, a0_2, a0_3, a0_4, a0_5, a0_6, a0_7, rfl, w0_0, w0_1, w0_2, w0_3, w0_4, w0_5, w0_6, w0_7⟩ := Op.open_pts4 Tryd.underlying48 Tryd.underlying23 rfl rfl rfl rfl Tryd.underlying2 (by kernel_rfl) (by kernel_rfl) (by kernel_rfl) h0
  obtain ⟨a1, rfl, rfl, rfl, w1⟩ := open_int Tryd.underlying5 (hval 1 5 v1 rfl rfl) h1
  obtain ⟨a2, rfl, rfl, rfl, w2⟩ := open_int Tryd.underlying5 (hval 2 5 v2 rfl rfl) h2
  clear hA0
  refine (walk a0_0 a0_1 a0_2 a0_3 a0_4 a0_5 a0_6 a0_7 w0_0 w0_1 w0_2 w0_3 w0_4 w0_5 w0_6 w0_7 a1 w1 a2 w2 (table0 hL)).mono fun e W' ⟨he, bel⟩ => ?_
  subst he
  exact ⟨_, rfl, _, _, _, [], _, [], hW', trodAll_mk1 (shut_bool Tryd.underlying4 _), (trodAll_cons_mk (Below.trod laidOut (by kernel_rfl) (of_decide_eq_true (by kernel_rfl)) k0 bel lt0) (trodAll_cons_mk (Below.trod laidOut (by kernel_rfl) (of_decide_eq_true (by kernel_rfl)) k1 bel lt1) (trodAll_cons_mk (Below.trod laidOut (by kernel_rfl) (of_decide_eq_true (by kernel_rfl)) k2 bel lt2) trodAll_mk0))), rfl, bel.frame _, fun h => by cases h⟩

noncomputable def laidHeap (os : Os) : Array Obj :=
  (World.holding Tryd.prog os ⟨#[], #[], []⟩).heap.modify 1 (fun
      | .cells _ t frozen => .cells #[.int .u64 9223372036854775808, .int .u64 18446744073709551615] t frozen
      | o => o)
noncomputable def laidWorld (os : Os) : World :=
  { World.holding Tryd.prog os ⟨#[], #[], []⟩ with heap := laidHeap os }
theorem laid_met (os : Os) : laidMet Tryd.prog Rows.circleAlternatesRow.laid ((laidWorld os).forCall (fun _ _ => 0) ⟨#[], #[.agg #[.int .i64 0, .int .i64 0, .int .i64 0, .int .i64 0, .int .i64 0, .int .i64 0, .int .i64 0, .int .i64 0], .int .u8 0, .int .u8 0], []⟩).memory :=
  laidMet_of_run' 8 (by kernel_rfl) (by kernel_rfl)
theorem reads (os : Os) {H : Type} (enc : TypeId × Value → H) : ∃ places, DataW.whole enc Tryd.prog ((laidWorld os).forCall (fun _ _ => 0) ⟨#[], #[.agg #[.int .i64 0, .int .i64 0, .int .i64 0, .int .i64 0, .int .i64 0, .int .i64 0, .int .i64 0, .int .i64 0], .int .u8 0, .int .u8 0], []⟩).memory Tryd.f11.params.toList Rows.circleAlternatesSpec.vars false (#[.agg #[.int .i64 0, .int .i64 0, .int .i64 0, .int .i64 0, .int .i64 0, .int .i64 0, .int .i64 0, .int .i64 0], .int .u8 0, .int .u8 0] : Array Value).toList 8 = some ([.agg [.agg [.lit (.int .i64 0), .lit (.int .i64 0)], .agg [.lit (.int .i64 0), .lit (.int .i64 0)], .agg [.lit (.int .i64 0), .lit (.int .i64 0)], .agg [.lit (.int .i64 0), .lit (.int .i64 0)]], .lit (.int .u8 0), .lit (.int .u8 0)], [], places) :=
  ⟨[], by kernel_rfl⟩

set_option maxRecDepth 100000 in
theorem lifted (os : Os) (started : os.Started) (H : Type) (enc : TypeId × Value → H) (F : Stop.Interp) :
    ReturnsInHanded {} Tryd.checked os 11 .any ((OpenSpec.ofChange Rows.circleAlternatesSpec).preRow enc Tryd.prog Tryd.f11 Rows.circleAlternatesRow.domain false Rows.circleAlternatesRow.laid) (((OpenSpec.ofChange Rows.circleAlternatesSpec).at F).post enc Tryd.prog Tryd.f11 false true false false) := by
  obtain ⟨places, hx⟩ := reads os enc
  refine returnsInHanded_of_row (C := Tryd.checked) (s := OpenSpec.ofChange Rows.circleAlternatesSpec) own started (by kernel_rfl) Tryd.func11
    (witness_row_at (enc := enc) (C := Tryd.checked) false (laidWorld os) #[.agg #[.int .i64 0, .int .i64 0, .int .i64 0, .int .i64 0, .int .i64 0, .int .i64 0, .int .i64 0, .int .i64 0], .int .u8 0, .int .u8 0] rfl (by kernel_rfl) (by kernel_rfl) (by kernel_rfl)
      (OpenSpec.preRow_of_cond 8 hx (by kernel_rfl) (fun k hk => by cases hk) (by kernel_rfl) (laid_met os))) ?_
  intro W base args ds gs before hval hW _ _ _ hL _ _
  exact contract H enc W base args ds gs before hval hW hL

theorem said : Rows.CircleAlternatesSaid :=
  OpenClaim.holds_of_cond 11 Tryd.f11 rfl rfl rfl rfl rfl rfl rfl ⟨rfl, rfl, rfl, rfl, rfl⟩ rfl rfl rfl rfl rfl (by kernel_rfl) Tryd.func11 (by kernel_rfl)
    (of_decide_eq_true (by kernel_rfl)) (by unfold Func.isWrapper; first | (rw [if_pos (by decide +kernel)]; kernel_rfl) | (rw [if_neg (by decide +kernel)]; exact ⟨rfl, rfl⟩))
    (fun os started H enc _ F => by rw [OpenClaim.pre_eq_preRow]; exact lifted os started H enc F)

theorem plain (f : FuncId) (fn : Func) (hf : Tryd.pinned.checked.prog.funcNamed "geofence/geofencelaw07.CircleAlternates" = some f) (hfn : Tryd.pinned.checked.prog.funcs[f]? = some fn) :
    false = Tryd.pinned.checked.prog.looks [] ∧ ∀ (j : Nat) t, fn.params[j]? = some t → Tryd.pinned.checked.prog.wantsStandIn t = false := by
  obtain rfl : f = 11 := Option.some.inj ((show Tryd.prog.funcNamed "geofence/geofencelaw07.CircleAlternates" = some 11 by kernel_rfl).symm.trans hf) |>.symm
  obtain rfl : fn = Tryd.f11 := (Option.some.inj (Tryd.func11.symm.trans hfn)).symm
  refine ⟨by kernel_rfl, fun j t ht => ?_⟩
  rw [Tryd.params11] at ht
  have hm := Array.mem_of_getElem? ht
  simp at hm
  rcases hm with rfl | rfl
  · exact (show Tryd.prog.wantsStandIn 48 = false by kernel_rfl)
  · exact (show Tryd.prog.wantsStandIn 5 = false by kernel_rfl)

/-- THE CARD -/
theorem card : Rows.CircleAlternatesCardSaid :=
  Claim7.holds_tied_plain_at .later [] _ _ _ _ said (fun _ h => by cases h) (by kernel_rfl) (fun _ h => by cases h) circleAlternates_row_tie rfl ⟨rfl, rfl⟩ (by kernel_rfl) rfl plain (by kernel_rfl)
#print axioms card
end Go.Proofs.YtfjanlfbnliokaaDoor.circleAlternates
