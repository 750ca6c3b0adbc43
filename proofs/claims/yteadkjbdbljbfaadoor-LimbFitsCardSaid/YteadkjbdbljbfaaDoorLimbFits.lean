/- LimbFits: for every input the law returns true, and each argument reads afterwards as it read before; the package variable that the row lists holds what it lists. -/
import Derived.Test.YteadkjbdbljbfaaDoorCards
import Derived.Test.YteadkjbdbljbfaaDoorTie
import Derived.Test.YteadkjbdbljbfaaDoorLaw3b
import Derived.Test.YteadkjbdbljbfaaDoorLimb6
import Derived.Test.YteadkjbdbljbfaaDoorRef1
import Derived.Test.YteadkjbdbljbfaaDoorRef3h
import Derived.Test.YteadkjbdbljbfaaDoorOpenSl
import Derived.WalkKit
import Derived.ProofKit
import Derived.OpenShut
import Derived.Below
import Derived.Deep.DeepHandedRow
import Derived.Lib.LaidTab
namespace Go.Proofs.YteadkjbdbljbfaaDoor.limbFits
open Go.ChangeShapes Go.WideShapes Go.ChangeAt Go.RowKit Wd
set_option linter.unusedVariables false
set_option linter.unusedSimpArgs false

theorem own : ownKnob Tryd.prog.godebug = none := by kernel_rfl
theorem laidOut : laidOutB Tryd.prog = true := by kernel_rfl

set_option maxHeartbeats 1000000 in
theorem walk {w : World} (A0 : Option Addr) (n0 c0 : Nat) (x0 : Int) (f0 : Fit n0 x0) (s0 : Sl w .u64 A0 n0 c0 (lmb x0)) (a1 : Int) (w1 : (Lit.int .i64 a1).wf = true) (hT : TabM w) :
    Calls Tryd.prog 7 #[.slice A0 n0 c0, .int .i64 a1] w fun e w' => e = .returned (.bool true) ∧ Below w.heap.size w w' := by
  have HT := Lib.hid hT; have HB0 := Lib.hid (Below.refl w.heap.size w)
  have FS0 := Lib.hid s0; have m0 : n0 ≤ maxLen := Nat.le_trans s0.cap s0.max
  have HF0 := Lib.hid f0
  have i1 := isI_of_wf w1
  clear hT s0 f0
  cases hl : lng n0
  · have hl0 : n0 ≤ 50 := lng_false hl
    cases h0 : isN n0
    · go_enter Tryd.func7, Tryd.ntmps7
      go_wp2_with fail
      refine (law_long1 _ A0 n0 c0 m0 _ (by simp [go_sem])).mono ?_
      rintro e w1 ⟨rfl, rfl⟩
      rw [hl]
      go_wp2_with fail
      refine (limb_Fits_no _ _ _ _ _ _ (FS0.out.alloc _) (.inl h0)).mono ?_
      rintro e w2 ⟨rfl, B⟩
      have HB2 := Lib.hid ((HB0.out.alloc HB0.out.size _).trans (B.mono (HB0.out.alloc HB0.out.size _).size))
      have FT_2 := Lib.hid ((HT.out.alloc _).below B (Nat.le_refl _))
      have FS0_2 := Lib.hid ((FS0.out.alloc _).below B (Nat.le_refl _))
      clear B  HB0 HT FS0
      go_wp2_with fail
      refine (ref3_Is _ _ _ m0 _).mono ?_
      rintro e w3 ⟨rfl, rfl⟩
      rw [h0]
      go_wp2_with fail
      refine (alive3 _ FT_2.out).mono ?_
      rintro e w4 ⟨rfl, B⟩
      have HB4 := Lib.hid (HB2.out.trans (B.mono HB2.out.size))
      have FT_4 := Lib.hid (FT_2.out.below B (Nat.le_refl _))
      have FS0_4 := Lib.hid (FS0_2.out.below B (Nat.le_refl _))
      clear B  HB2 FT_2 FS0_2
      go_wp2_with fail
      go_ret
      exact ⟨rfl, HB4.out⟩
    · rcases (by omega : a1 < 1 ∨ (¬ a1 < 1 ∧ 8 < a1) ∨ (1 ≤ a1 ∧ a1 ≤ 8)) with hq | hq | hq
      · have hd1 : decide (a1 < 1) = true := by simpa using hq
        go_enter Tryd.func7, Tryd.ntmps7
        go_wp2_with fail
        refine (law_long1 _ A0 n0 c0 m0 _ (by simp [go_sem])).mono ?_
        rintro e w1 ⟨rfl, rfl⟩
        rw [hl]
        go_wp2_with fail
        refine (limb_Fits_no _ _ _ _ _ _ (FS0.out.alloc _) (.inr (.inl hq))).mono ?_
        rintro e w2 ⟨rfl, B⟩
        have HB2 := Lib.hid ((HB0.out.alloc HB0.out.size _).trans (B.mono (HB0.out.alloc HB0.out.size _).size))
        have FT_2 := Lib.hid ((HT.out.alloc _).below B (Nat.le_refl _))
        have FS0_2 := Lib.hid ((FS0.out.alloc _).below B (Nat.le_refl _))
        clear B  HB0 HT FS0
        go_wp2_with fail
        refine (ref3_Is _ _ _ m0 _).mono ?_
        rintro e w3 ⟨rfl, rfl⟩
        rw [h0]
        go_wp2_with fail
        refine (alive3 _ FT_2.out).mono ?_
        rintro e w4 ⟨rfl, B⟩
        have HB4 := Lib.hid (HB2.out.trans (B.mono HB2.out.size))
        have FT_4 := Lib.hid (FT_2.out.below B (Nat.le_refl _))
        have FS0_4 := Lib.hid (FS0_2.out.below B (Nat.le_refl _))
        clear B  HB2 FT_2 FS0_2
        go_wp2_with fail
        go_ret
        exact ⟨rfl, HB4.out⟩
      · have hd1 : decide (a1 < 1) = false := by simpa using hq.1
        have hd2 : decide (8 < a1) = true := by simpa using hq.2
        go_enter Tryd.func7, Tryd.ntmps7
        go_wp2_with fail
        refine (law_long1 _ A0 n0 c0 m0 _ (by simp [go_sem])).mono ?_
        rintro e w1 ⟨rfl, rfl⟩
        rw [hl]
        go_wp2_with fail
        refine (limb_Fits_no _ _ _ _ _ _ (FS0.out.alloc _) (.inr (.inr hq.2))).mono ?_
        rintro e w2 ⟨rfl, B⟩
        have HB2 := Lib.hid ((HB0.out.alloc HB0.out.size _).trans (B.mono (HB0.out.alloc HB0.out.size _).size))
        have FT_2 := Lib.hid ((HT.out.alloc _).below B (Nat.le_refl _))
        have FS0_2 := Lib.hid ((FS0.out.alloc _).below B (Nat.le_refl _))
        clear B  HB0 HT FS0
        go_wp2_with fail
        refine (ref3_Is _ _ _ m0 _).mono ?_
        rintro e w3 ⟨rfl, rfl⟩
        rw [h0]
        go_wp2_with fail
        refine (alive3 _ FT_2.out).mono ?_
        rintro e w4 ⟨rfl, B⟩
        have HB4 := Lib.hid (HB2.out.trans (B.mono HB2.out.size))
        have FT_4 := Lib.hid (FT_2.out.below B (Nat.le_refl _))
        have FS0_4 := Lib.hid (FS0_2.out.below B (Nat.le_refl _))
        clear B  HB2 FT_2 FS0_2
        go_wp2_with fail
        go_ret
        exact ⟨rfl, HB4.out⟩
      · obtain ⟨q, rfl⟩ : ∃ q : Nat, a1 = q := ⟨a1.toNat, by omega⟩
        have hd1 : decide ((q : Int) < 1) = false := by simp; omega
        have hd2 : decide (8 < (q : Int)) = false := by simp; omega
        have hqn : isN q = true := by simp [isN]; omega
        by_cases hle : n0 ≤ q
        · have hfb : fitB q x0 = true := fitB_iff.2 (fit_mono HF0.out hle)
          go_enter Tryd.func7, Tryd.ntmps7
          go_wp2_with fail
          refine (law_long1 _ A0 n0 c0 m0 _ (by simp [go_sem])).mono ?_
          rintro e w1 ⟨rfl, rfl⟩
          rw [hl]
          go_wp2_with fail
          refine (limb_Fits_big _ _ _ _ _ q rfl _ (FS0.out.alloc _) h0 hqn hle).mono ?_
          rintro e w2 ⟨rfl, B⟩
          have HB2 := Lib.hid ((HB0.out.alloc HB0.out.size _).trans (B.mono (HB0.out.alloc HB0.out.size _).size))
          have FT_2 := Lib.hid ((HT.out.alloc _).below B (Nat.le_refl _))
          have FS0_2 := Lib.hid ((FS0.out.alloc _).below B (Nat.le_refl _))
          clear B  HB0 HT FS0
          go_wp2_with fail
          refine (ref3_Is _ _ _ m0 _).mono ?_
          rintro e w3 ⟨rfl, rfl⟩
          rw [h0]
          go_wp2_with fail
          refine (alive3 _ FT_2.out).mono ?_
          rintro e w4 ⟨rfl, B⟩
          have HB4 := Lib.hid (HB2.out.trans (B.mono HB2.out.size))
          have FT_4 := Lib.hid (FT_2.out.below B (Nat.le_refl _))
          have FS0_4 := Lib.hid (FS0_2.out.below B (Nat.le_refl _))
          clear B  HB2 FT_2 FS0_2
          go_wp2_with fail
          refine (ref3_Value _ _ _ _ _ FS0_4.out HF0.out (by omega)).mono ?_
          rintro e w5 ⟨⟨VX, kX, dX, rfl, bX, NX⟩, B⟩
          have HB5 := Lib.hid (HB4.out.trans (B.mono HB4.out.size))
          have FT_5 := Lib.hid (FT_4.out.below B (Nat.le_refl _))
          have FS0_5 := Lib.hid (FS0_4.out.below B (Nat.le_refl _))
          have FX_5 := Lib.hid NX
          clear B NX HB4 FT_4 FS0_4
          go_wp2_with fail
          refine (ref3_Fits _ _ _ _ _ q rfl _ FX_5.out (by omega) (by omega)).mono ?_
          rintro e w6 ⟨rfl, B⟩
          have HB6 := Lib.hid (HB5.out.trans (B.mono HB5.out.size))
          have FT_6 := Lib.hid (FT_5.out.below B (Nat.le_refl _))
          have FS0_6 := Lib.hid (FS0_5.out.below B (Nat.le_refl _))
          have FX_6 := Lib.hid (FX_5.out.below B (Nat.le_refl _))
          clear B  HB5 FT_5 FS0_5 FX_5
          rw [hfb]
          go_wp2_with fail
          refine (ref1_Mask _ _).mono ?_
          rintro e w7 ⟨rfl, rfl⟩
          go_wp2_with fail
          go_ret
          exact ⟨rfl, HB6.out⟩
        · go_enter Tryd.func7, Tryd.ntmps7
          go_wp2_with fail
          refine (law_long1 _ A0 n0 c0 m0 _ (by simp [go_sem])).mono ?_
          rintro e w1 ⟨rfl, rfl⟩
          rw [hl]
          go_wp2_with fail
          refine (limb_Fits _ _ _ x0 _ q rfl _ (FS0.out.alloc _) HF0.out h0 hqn (by omega)).mono ?_
          rintro e w2 ⟨rfl, B⟩
          have HB2 := Lib.hid ((HB0.out.alloc HB0.out.size _).trans (B.mono (HB0.out.alloc HB0.out.size _).size))
          have FT_2 := Lib.hid ((HT.out.alloc _).below B (Nat.le_refl _))
          have FS0_2 := Lib.hid ((FS0.out.alloc _).below B (Nat.le_refl _))
          clear B  HB0 HT FS0
          go_wp2_with fail
          refine (ref3_Is _ _ _ m0 _).mono ?_
          rintro e w3 ⟨rfl, rfl⟩
          rw [h0]
          go_wp2_with fail
          refine (alive3 _ FT_2.out).mono ?_
          rintro e w4 ⟨rfl, B⟩
          have HB4 := Lib.hid (HB2.out.trans (B.mono HB2.out.size))
          have FT_4 := Lib.hid (FT_2.out.below B (Nat.le_refl _))
          have FS0_4 := Lib.hid (FS0_2.out.below B (Nat.le_refl _))
          clear B  HB2 FT_2 FS0_2
          go_wp2_with fail
          refine (ref3_Value _ _ _ _ _ FS0_4.out HF0.out (by omega)).mono ?_
          rintro e w5 ⟨⟨VX, kX, dX, rfl, bX, NX⟩, B⟩
          have HB5 := Lib.hid (HB4.out.trans (B.mono HB4.out.size))
          have FT_5 := Lib.hid (FT_4.out.below B (Nat.le_refl _))
          have FS0_5 := Lib.hid (FS0_4.out.below B (Nat.le_refl _))
          have FX_5 := Lib.hid NX
          clear B NX HB4 FT_4 FS0_4
          go_wp2_with fail
          refine (ref3_Fits _ _ _ _ _ q rfl _ FX_5.out (by omega) (by omega)).mono ?_
          rintro e w6 ⟨rfl, B⟩
          have HB6 := Lib.hid (HB5.out.trans (B.mono HB5.out.size))
          have FT_6 := Lib.hid (FT_5.out.below B (Nat.le_refl _))
          have FS0_6 := Lib.hid (FS0_5.out.below B (Nat.le_refl _))
          have FX_6 := Lib.hid (FX_5.out.below B (Nat.le_refl _))
          clear B  HB5 FT_5 FS0_5 FX_5
          go_wp2_with fail
          refine (ref1_Mask _ _).mono ?_
          rintro e w7 ⟨rfl, rfl⟩
          go_wp2_with fail
          go_ret
          exact ⟨rfl, HB6.out⟩
  · go_enter Tryd.func7, Tryd.ntmps7
    go_wp2_with fail
    refine (law_long1 _ A0 n0 c0 m0 _ (by simp [go_sem])).mono ?_
    rintro e w1 ⟨rfl, rfl⟩
    rw [hl]
    go_wp2_with fail
    refine (alive3 _ (HT.out.alloc _)).mono ?_
    rintro e w2 ⟨rfl, B⟩
    have HB2 := Lib.hid ((HB0.out.alloc HB0.out.size _).trans (B.mono (HB0.out.alloc HB0.out.size _).size))
    have FT_2 := Lib.hid ((HT.out.alloc _).below B (Nat.le_refl _))
    have FS0_2 := Lib.hid ((FS0.out.alloc _).below B (Nat.le_refl _))
    clear B  HB0 HT FS0
    go_wp2_with fail
    go_ret
    exact ⟨rfl, HB2.out⟩

theorem gTab0 : Tryd.prog.globalNamed "geofence/mask.words" = some 0 := by kernel_rfl
theorem gTabType : (Tryd.prog.globals[0]?).map (·.type) = some 69 := by kernel_rfl
theorem cellsT : Tryd.prog.cellsOf 69 = 2 := by kernel_rfl
theorem cellsE : Tryd.prog.cellsOf 38 = 1 := by kernel_rfl
theorem tableIs {W : World} (h : laidMetH Tryd.prog Rows.limbFitsRow.laid W) : Lib.TabIs Tryd.prog W "geofence/mask.words" .u64 [9223372036854775808, 18446744073709551615] :=
  Lib.tabIs_of_head (rest := _) gTab0 gTabType Tryd.underlying69 Tryd.underlying38 cellsE cellsT h
theorem table {W : World} (h : laidMetH Tryd.prog Rows.limbFitsRow.laid W) : TabM W := ⟨(tableIs h).cell gTab0 0 (by decide), (tableIs h).cell gTab0 1 (by decide)⟩

theorem contract (H : Type) (enc : TypeId × Value → H) (W : World) (base : Nat) (args : Array Value) (ds gs : List (DataW H)) (before : List MemPlace)
    (hval : ∀ (j : Nat) t v, Tryd.f7.params[j]? = some t → args[j]? = some v → Value.okWide Tryd.prog W .any base t v)
    (hW : DataW.Whole enc Tryd.prog Tryd.f7.params.toList Rows.limbFitsSpec.vars false W args.toList ds gs before) (hL : laidMetH Tryd.prog Rows.limbFitsRow.laid W) :
    Calls Tryd.prog 7 args W fun e W' => ∃ v, e = .returned v ∧ Rows.limbFitsSpec.post enc Tryd.prog Tryd.f7 false true false false W args v W' := by
  have hW' := hW
  obtain ⟨p, q, hA0, hV, rfl, hfz, hnd⟩ := hW
  have hA : DataW.TrodAll enc Tryd.prog W 0 (fun _ => true) true Tryd.f7.params.toList args.toList ds p := hA0
  rw [Tryd.params7] at hA hval
  obtain ⟨v0, vs0, d0, ds0, p0, q0, hargs, rfl, rfl, h0, r0⟩ := trodAll_cons hA
  obtain ⟨v1, vs1, d1, ds1, p1, q1, rfl, rfl, rfl, h1, r1⟩ := trodAll_cons r0
  obtain ⟨rfl, rfl, rfl⟩ := trodAll_nil r1
  obtain rfl : args = #[v0, v1] := by cases args; simp_all
  obtain ⟨rfl, rfl⟩ := trodVars_none hV
  have k0 := h0
  have lt0 : ∀ x ∈ p0, x.block < W.heap.size := by obtain ⟨m, hm⟩ := k0; exact DataW.trod_lt m _ _ _ hm
  have k1 := h1
  have lt1 : ∀ x ∈ p1, x.block < W.heap.size := by obtain ⟨m, hm⟩ := k1; exact DataW.trod_lt m _ _ _ hm
  obtain ⟨A0, n0, c0, rfl⟩ := okWide_slice Tryd.underlying22 (hval 0 22 v0 rfl rfl)
  obtain ⟨x0, f0, s0⟩ := Op.open_words (w := W) Tryd.underlying22 Tryd.underlying38 (by kernel_rfl) h0
  obtain ⟨a1, rfl, rfl, rfl, w1⟩ := open_int Tryd.underlying3 (hval 1 3 v1 rfl rfl) h1
  clear hA0
  refine (walk A0 n0 c0 x0 f0 s0 a1 w1 (table hL)).mono fun e W' ⟨he, bel⟩ => ?_
  subst he
  exact ⟨_, rfl, _, _, _, [], _, [], hW', trodAll_mk1 (shut_bool Tryd.underlying4 _), (trodAll_cons_mk (Below.trod laidOut (by kernel_rfl) (of_decide_eq_true (by kernel_rfl)) k0 bel lt0) (trodAll_cons_mk (Below.trod laidOut (by kernel_rfl) (of_decide_eq_true (by kernel_rfl)) k1 bel lt1) trodAll_mk0)), rfl, bel.frame _, fun h => by cases h⟩

noncomputable def laidWorld (os : Os) : World :=
  { World.holding Tryd.prog os ⟨#[], #[], []⟩ with heap := (World.holding Tryd.prog os ⟨#[], #[], []⟩).heap.modify 0 fun
      | .cells _ t frozen => .cells #[.int .u64 9223372036854775808, .int .u64 18446744073709551615] t frozen
      | o => o }
theorem laid_met (os : Os) : laidMet Tryd.prog Rows.limbFitsRow.laid ((laidWorld os).forCall (fun _ _ => 0) ⟨#[], #[.slice none 0 0, .int .i64 0], []⟩).memory :=
  laidMet_of_run' 8 (by kernel_rfl) (by kernel_rfl)
theorem reads (os : Os) {H : Type} (enc : TypeId × Value → H) : ∃ places, DataW.whole enc Tryd.prog ((laidWorld os).forCall (fun _ _ => 0) ⟨#[], #[.slice none 0 0, .int .i64 0], []⟩).memory Tryd.f7.params.toList Rows.limbFitsSpec.vars false (#[.slice none 0 0, .int .i64 0] : Array Value).toList 8 = some ([.nil, .lit (.int .i64 0)], [], places) :=
  ⟨[], by kernel_rfl⟩

set_option maxRecDepth 100000 in
theorem lifted (os : Os) (started : os.Started) (H : Type) (enc : TypeId × Value → H) (F : Stop.Interp) :
    ReturnsInHanded {} Tryd.checked os 7 .any ((OpenSpec.ofChange Rows.limbFitsSpec).preRow enc Tryd.prog Tryd.f7 Rows.limbFitsRow.domain false Rows.limbFitsRow.laid) (((OpenSpec.ofChange Rows.limbFitsSpec).at F).post enc Tryd.prog Tryd.f7 false true false false) := by
  obtain ⟨places, hx⟩ := reads os enc
  refine returnsInHanded_of_row (C := Tryd.checked) (s := OpenSpec.ofChange Rows.limbFitsSpec) own started (by kernel_rfl) Tryd.func7
    (witness_row_at (enc := enc) (C := Tryd.checked) false (laidWorld os) #[.slice none 0 0, .int .i64 0] rfl (by kernel_rfl) (by kernel_rfl) (by kernel_rfl)
      (OpenSpec.preRow_of_cond 8 hx (by kernel_rfl) (fun k hk => by cases hk) (by kernel_rfl) (laid_met os))) ?_
  intro W base args ds gs before hval hW _ _ _ hL _ _
  exact contract H enc W base args ds gs before hval hW hL

theorem said : Rows.LimbFitsSaid :=
  OpenClaim.holds_of_cond 7 Tryd.f7 rfl rfl rfl rfl rfl rfl rfl ⟨rfl, rfl, rfl, rfl, rfl⟩ rfl rfl rfl rfl rfl (by kernel_rfl) Tryd.func7 (by kernel_rfl)
    (of_decide_eq_true (by kernel_rfl)) (by unfold Func.isWrapper; first | (rw [if_pos (by decide +kernel)]; kernel_rfl) | (rw [if_neg (by decide +kernel)]; exact ⟨rfl, rfl⟩))
    (fun os started H enc _ F => by rw [OpenClaim.pre_eq_preRow]; exact lifted os started H enc F)

theorem plain (f : FuncId) (fn : Func) (hf : Tryd.pinned.checked.prog.funcNamed "geofence/geofencelaw03.LimbFits" = some f) (hfn : Tryd.pinned.checked.prog.funcs[f]? = some fn) :
    false = Tryd.pinned.checked.prog.looks [] ∧ ∀ (j : Nat) t, fn.params[j]? = some t → Tryd.pinned.checked.prog.wantsStandIn t = false := by
  obtain rfl : f = 7 := Option.some.inj ((show Tryd.prog.funcNamed "geofence/geofencelaw03.LimbFits" = some 7 by kernel_rfl).symm.trans hf) |>.symm
  obtain rfl : fn = Tryd.f7 := (Option.some.inj (Tryd.func7.symm.trans hfn)).symm
  refine ⟨by kernel_rfl, fun j t ht => ?_⟩
  rw [Tryd.params7] at ht
  have hm := Array.mem_of_getElem? ht
  simp at hm
  rcases hm with rfl | rfl
  · exact (show Tryd.prog.wantsStandIn 22 = false by kernel_rfl)
  · exact (show Tryd.prog.wantsStandIn 3 = false by kernel_rfl)

/-- THE CARD -/
theorem card : Rows.LimbFitsCardSaid :=
  Claim7.holds_tied_plain_at .later [] _ _ _ _ said (fun _ h => by cases h) (by kernel_rfl) (fun _ h => by cases h) limbFits_row_tie rfl ⟨rfl, rfl⟩ (by kernel_rfl) rfl plain (by kernel_rfl)
#print axioms card
end Go.Proofs.YteadkjbdbljbfaaDoor.limbFits
