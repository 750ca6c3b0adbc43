/- PolygonValid: for every input the law returns true, and each argument reads afterwards as it read before; the package variable that the row lists holds what it lists. -/
import Derived.Test.YtoikcgmdlccdbaaDoorCards
import Derived.Test.YtoikcgmdlccdbaaDoorTie
import Derived.Test.YtoikcgmdlccdbaaDoorLaw14
import Derived.Test.YtoikcgmdlccdbaaDoorPolyR
import Derived.Test.YtoikcgmdlccdbaaDoorRef1
import Derived.Test.YtoikcgmdlccdbaaDoorPts
import Derived.Test.YtoikcgmdlccdbaaDoorMain
import Derived.Test.YtoikcgmdlccdbaaDoorOpenPt
import Derived.WalkKit
import Derived.ProofKit
import Derived.OpenShut
import Derived.Below
import Derived.Deep.DeepHandedRow
import Derived.Lib.LaidTab
namespace Go.Proofs.YtoikcgmdlccdbaaDoor.polygonValid
open Go.ChangeShapes Go.WideShapes Go.ChangeAt Go.RowKit Wd
set_option linter.unusedVariables false
set_option linter.unusedSimpArgs false

theorem own : ownKnob Tryd.prog.godebug = none := by kernel_rfl
theorem laidOut : laidOutB Tryd.prog = true := by kernel_rfl

set_option maxHeartbeats 4000000 in
theorem walk {w : World} (A0 : Option Addr) (n0 c0 : Nat) (f0 g0 : Nat → Int) (s0 : Pts w A0 n0 c0 f0 g0) (hT : TabM w) :
    Calls Tryd.prog 15 #[.slice A0 n0 c0] w fun e w' => e = .returned (.bool true) ∧ Below w.heap.size w w' := by
  have HB0 := Lib.hid (Below.refl w.heap.size w)
  have FT := Lib.hid hT; clear hT
  have FX := Lib.hid s0; have hm0 := Nat.le_trans s0.cap s0.max; clear s0
  by_cases h70 : 70 < n0
  · have h71 : (70 : Int) < n0 := by omega
    go_enter Tryd.func15, Tryd.ntmps15
    go_wp2_with fail
    refine (alive14 _ FT.out).mono ?_
    rintro e w1 ⟨rfl, B⟩
    have HB1 := Lib.hid (HB0.out.trans (B.mono HB0.out.size))
    have FT_1 := Lib.hid (FT.out.below B (Nat.le_refl _))
    have FX_1 := Lib.hid (FX.out.below B (Nat.le_refl _))
    clear B  HB0 FT FX
    go_wp2_with fail
    go_ret
    exact ⟨rfl, HB1.out⟩
  · have h71 : ¬ ((70 : Int) < n0) := by omega
    have hr := ori_range f0 g0 n0
    go_enter Tryd.func15, Tryd.ntmps15
    go_wp2_with fail
    refine (alive14 _ FT.out).mono ?_
    rintro e w1 ⟨rfl, B⟩
    have HB1 := Lib.hid (HB0.out.trans (B.mono HB0.out.size))
    have FT_1 := Lib.hid (FT.out.below B (Nat.le_refl _))
    have FX_1 := Lib.hid (FX.out.below B (Nat.le_refl _))
    clear B  HB0 FT FX
    go_wp2_with fail
    refine (polygon_Valid _ n0 _ f0 g0 _ FT_1.out FX_1.out).mono ?_
    rintro e w2 ⟨rfl, B⟩
    have HB2 := Lib.hid (HB1.out.trans (B.mono HB1.out.size))
    have FT_2 := Lib.hid (FT_1.out.below B (Nat.le_refl _))
    have FX_2 := Lib.hid (FX_1.out.below B (Nat.le_refl _))
    clear B  HB1 FT_1 FX_1
    go_wp2_with fail
    refine (ref14_Valid _ n0 _ f0 g0 _ FX_2.out).mono ?_
    rintro e w3 ⟨rfl, B⟩
    have HB3 := Lib.hid (HB2.out.trans (B.mono HB2.out.size))
    have FT_3 := Lib.hid (FT_2.out.below B (Nat.le_refl _))
    have FX_3 := Lib.hid (FX_2.out.below B (Nat.le_refl _))
    clear B  HB2 FT_2 FX_2
    go_wp2_with fail
    refine (ref1_Mask _ _).mono ?_
    rintro e w4 ⟨rfl, rfl⟩
    go_wp2_with fail
    refine (polygon_Orientation _ n0 _ f0 g0 _ FT_3.out FX_3.out).mono ?_
    rintro e w5 ⟨rfl, B⟩
    have HB5 := Lib.hid (HB3.out.trans (B.mono HB3.out.size))
    have FT_5 := Lib.hid (FT_3.out.below B (Nat.le_refl _))
    have FX_5 := Lib.hid (FX_3.out.below B (Nat.le_refl _))
    clear B  HB3 FT_3 FX_3
    go_wp2_with fail
    refine (ref14_Orientation _ n0 _ f0 g0 _ FX_5.out).mono ?_
    rintro e w6 ⟨rfl, B⟩
    have HB6 := Lib.hid (HB5.out.trans (B.mono HB5.out.size))
    have FT_6 := Lib.hid (FT_5.out.below B (Nat.le_refl _))
    have FX_6 := Lib.hid (FX_5.out.below B (Nat.le_refl _))
    clear B  HB5 FT_5 FX_5
    go_wp2_with fail
    go_ret
    exact ⟨rfl, HB6.out⟩

theorem gTab0 : Tryd.prog.globalNamed "geofence/mask.words" = some 0 := by kernel_rfl
theorem gTabType0 : (Tryd.prog.globals[0]?).map (·.type) = some 93 := by kernel_rfl
theorem cellsT0 : Tryd.prog.cellsOf 93 = 2 := by kernel_rfl
theorem cellsE0 : Tryd.prog.cellsOf 23 = 1 := by kernel_rfl
theorem tableIs0 {W : World} (h : laidMetH Tryd.prog Rows.polygonValidRow.laid W) : Lib.TabIs Tryd.prog W "geofence/mask.words" .u64 [9223372036854775808, 18446744073709551615] :=
  Lib.tabIs_of_head (rest := _) gTab0 gTabType0 Tryd.underlying93 Tryd.underlying23 cellsE0 cellsT0 h
theorem table0 {W : World} (h : laidMetH Tryd.prog Rows.polygonValidRow.laid W) : TabM W := ⟨(tableIs0 h).cell gTab0 0 (by decide), (tableIs0 h).cell gTab0 1 (by decide)⟩

set_option maxRecDepth 100000 in
theorem contract (H : Type) (enc : TypeId × Value → H) (W : World) (base : Nat) (args : Array Value) (ds gs : List (DataW H)) (before : List MemPlace)
    (hval : ∀ (j : Nat) t v, Tryd.f15.params[j]? = some t → args[j]? = some v → Value.okWide Tryd.prog W .any base t v)
    (hW : DataW.Whole enc Tryd.prog Tryd.f15.params.toList Rows.polygonValidSpec.vars false W args.toList ds gs before) (hL : laidMetH Tryd.prog Rows.polygonValidRow.laid W) :
    Calls Tryd.prog 15 args W fun e W' => ∃ v, e = .returned v ∧ Rows.polygonValidSpec.post enc Tryd.prog Tryd.f15 false true false false W args v W' := by
  have hW' := hW
  obtain ⟨p, q, hA0, hV, rfl, hfz, hnd⟩ := hW
  have hA : DataW.TrodAll enc Tryd.prog W 0 (fun _ => true) true Tryd.f15.params.toList args.toList ds p := hA0
  rw [Tryd.params15] at hA hval
  obtain ⟨v0, vs0, d0, ds0, p0, q0, hargs, rfl, rfl, h0, r0⟩ := trodAll_cons hA
  obtain ⟨rfl, rfl, rfl⟩ := trodAll_nil r0
  obtain rfl : args = #[v0] := by cases args; simp_all
  obtain ⟨rfl, rfl⟩ := trodVars_none hV
  have k0 := h0
  have lt0 : ∀ x ∈ p0, x.block < W.heap.size := by obtain ⟨m, hm⟩ := k0; exact DataW.trod_lt m _ _ _ hm
  obtain ⟨A0, n0, c0, rfl⟩ := okWide_slice Tryd.underlying35 (hval 0 35 v0 rfl rfl)
  obtain ⟨f0, g0, s0⟩ := Op.open_ptsl (w := W) Tryd.underlying35 Tryd.underlying28 rfl rfl rfl rfl Tryd.underlying2 (by kernel_rfl) (by kernel_rfl) h0
  clear hA0
  refine (walk A0 n0 c0 f0 g0 s0 (table0 hL)).mono fun e W' ⟨he, bel⟩ => ?_
  subst he
  exact ⟨_, rfl, _, _, _, [], _, [], hW', trodAll_mk1 (shut_bool Tryd.underlying4 _), (trodAll_cons_mk (Below.trod laidOut (by kernel_rfl) (of_decide_eq_true (by kernel_rfl)) k0 bel lt0) trodAll_mk0), rfl, bel.frame _, fun h => by cases h⟩

theorem joined : joinedFacts Tryd.prog 15 Tryd.f15 (OpenSpec.ofChange Rows.polygonValidSpec).bare Rows.polygonValidRow = true := by
  have e1 := enterIs
  have e2 := liftsIs
  have e3 := makeIs
  generalize hP : Tryd.prog = P at *
  unfold joinedFacts
  simp only [Bool.and_eq_true]
  repeat' apply And.intro
  all_goals first
    | with_reducible exact e1
    | (rw [e2]; kernel_rfl)
    | (rw [e3]; kernel_rfl)
    | (subst hP; kernel_rfl)

noncomputable def laidHeap (os : Os) : Array Obj :=
  (World.holding Tryd.prog os ⟨#[], #[], []⟩).heap.modify 0 (fun
      | .cells _ t frozen => .cells #[.int .u64 9223372036854775808, .int .u64 18446744073709551615] t frozen
      | o => o)
noncomputable def laidWorld (os : Os) : World :=
  { World.holding Tryd.prog os ⟨#[], #[], []⟩ with heap := laidHeap os }
theorem laid_met (os : Os) : laidMet Tryd.prog Rows.polygonValidRow.laid ((laidWorld os).forCall (fun _ _ => 0) ⟨#[], #[.slice none 0 0], []⟩).memory :=
  laidMet_of_run' 8 (by kernel_rfl) (by kernel_rfl)
theorem reads (os : Os) {H : Type} (enc : TypeId × Value → H) : ∃ places, DataW.whole enc Tryd.prog ((laidWorld os).forCall (fun _ _ => 0) ⟨#[], #[.slice none 0 0], []⟩).memory Tryd.f15.params.toList Rows.polygonValidSpec.vars false (#[.slice none 0 0] : Array Value).toList 8 = some ([.nil], [], places) :=
  ⟨[], by kernel_rfl⟩

set_option maxRecDepth 100000 in
theorem lifted (os : Os) (started : os.Started) (H : Type) (enc : TypeId × Value → H) (F : Stop.Interp) :
    ReturnsInHanded {} Tryd.checked os 15 .any ((OpenSpec.ofChange Rows.polygonValidSpec).preRow enc Tryd.prog Tryd.f15 Rows.polygonValidRow.domain false Rows.polygonValidRow.laid) (((OpenSpec.ofChange Rows.polygonValidSpec).at F).post enc Tryd.prog Tryd.f15 false true false false) := by
  obtain ⟨places, hx⟩ := reads os enc
  refine returnsInHanded_of_row (C := Tryd.checked) (s := OpenSpec.ofChange Rows.polygonValidSpec) own started (by kernel_rfl) Tryd.func15
    (witness_row_at (enc := enc) (C := Tryd.checked) false (laidWorld os) #[.slice none 0 0] rfl (by kernel_rfl) (by kernel_rfl) (by kernel_rfl)
      (OpenSpec.preRow_of_cond 8 hx (by kernel_rfl) (fun k hk => by cases hk) (by kernel_rfl) (laid_met os))) ?_
  intro W base args ds gs before hval hW _ _ _ hL _ _
  exact contract H enc W base args ds gs before hval hW hL

theorem said : Rows.PolygonValidSaid :=
  OpenClaim.holds_of_cond 15 Tryd.f15 rfl rfl rfl rfl rfl rfl rfl ⟨rfl, rfl, rfl, rfl, rfl⟩ rfl rfl rfl rfl rfl (by kernel_rfl) Tryd.func15 (joined)
    (of_decide_eq_true (by kernel_rfl)) (by unfold Func.isWrapper; first | (rw [if_pos (by decide +kernel)]; kernel_rfl) | (rw [if_neg (by decide +kernel)]; exact ⟨rfl, rfl⟩))
    (fun os started H enc _ F => by rw [OpenClaim.pre_eq_preRow]; exact lifted os started H enc F)

theorem plain (f : FuncId) (fn : Func) (hf : Tryd.pinned.checked.prog.funcNamed "geofence/geofencelaw14.PolygonValid" = some f) (hfn : Tryd.pinned.checked.prog.funcs[f]? = some fn) :
    false = Tryd.pinned.checked.prog.looks [] ∧ ∀ (j : Nat) t, fn.params[j]? = some t → Tryd.pinned.checked.prog.wantsStandIn t = false := by
  obtain rfl : f = 15 := Option.some.inj ((show Tryd.prog.funcNamed "geofence/geofencelaw14.PolygonValid" = some 15 by kernel_rfl).symm.trans hf) |>.symm
  obtain rfl : fn = Tryd.f15 := (Option.some.inj (Tryd.func15.symm.trans hfn)).symm
  refine ⟨by kernel_rfl, fun j t ht => ?_⟩
  rw [Tryd.params15] at ht
  have hm := Array.mem_of_getElem? ht
  simp at hm
  obtain rfl := hm
  exact (show Tryd.prog.wantsStandIn 35 = false by kernel_rfl)

/-- THE CARD -/
theorem card : Rows.PolygonValidCardSaid :=
  Claim7.holds_tied_plain_at .later [] _ _ _ _ said (fun _ h => by cases h) (by kernel_rfl) (fun _ h => by cases h) polygonValid_row_tie rfl ⟨rfl, rfl⟩ (mainText) rfl plain (by kernel_rfl)
#print axioms card
end Go.Proofs.YtoikcgmdlccdbaaDoor.polygonValid
