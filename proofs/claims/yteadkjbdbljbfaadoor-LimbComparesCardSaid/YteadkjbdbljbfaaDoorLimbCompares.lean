/- LimbCompares: for every input the law returns true, and each argument reads afterwards as it read before; the package variable that the row lists holds what it lists. -/
import Derived.Test.YteadkjbdbljbfaaDoorCards
import Derived.Test.YteadkjbdbljbfaaDoorTie
import Derived.Test.YteadkjbdbljbfaaDoorLaw3b
import Derived.Test.YteadkjbdbljbfaaDoorLimb5
import Derived.Test.YteadkjbdbljbfaaDoorOpenSl
import Derived.WalkKit
import Derived.ProofKit
import Derived.OpenShut
import Derived.Below
import Derived.Deep.DeepHandedRow
import Derived.Lib.LaidTab
namespace Go.Proofs.YteadkjbdbljbfaaDoor.limbCompares
open Go.ChangeShapes Go.WideShapes Go.ChangeAt Go.RowKit Wd
set_option linter.unusedVariables false
set_option linter.unusedSimpArgs false

theorem own : ownKnob Tryd.prog.godebug = none := by kernel_rfl
theorem laidOut : laidOutB Tryd.prog = true := by kernel_rfl

set_option maxHeartbeats 2000000 in
theorem walk {w : World} (A0 : Option Addr) (n0 c0 : Nat) (x0 : Int) (f0 : Fit n0 x0) (s0 : Sl w .u64 A0 n0 c0 (lmb x0)) (A1 : Option Addr) (n1 c1 : Nat) (x1 : Int) (f1 : Fit n1 x1) (s1 : Sl w .u64 A1 n1 c1 (lmb x1)) (hT : TabM w) :
    Calls Tryd.prog 8 #[.slice A0 n0 c0, .slice A1 n1 c1] w fun e w' => e = .returned (.bool true) ∧ Below w.heap.size w w' := by
  have HT := Lib.hid hT; have HB0 := Lib.hid (Below.refl w.heap.size w)
  have FS0 := Lib.hid s0; have m0 : n0 ≤ maxLen := Nat.le_trans s0.cap s0.max
  have HF0 := Lib.hid f0
  have FS1 := Lib.hid s1; have m1 : n1 ≤ maxLen := Nat.le_trans s1.cap s1.max
  have HF1 := Lib.hid f1
  clear hT s0 f0 s1 f1
  have r0 := sign_range x0; have r1 := sign_range (x0 - x1)
  have hfd : ∀ (s : Int) (V : Option Addr) (k c : Nat) (w : World), (Instr.field 31 (.agg #[.int .i64 s, .slice V k c]) 0).run Tryd.prog w = .ok (.int .i64 s) w := fun _ _ _ _ _ => by kernel_rfl
  cases hl : (lng n0 || lng n1)
  · have hl0 : n0 ≤ 50 := lng_false (by simp at hl; exact hl.1)
    have hl1 : n1 ≤ 50 := lng_false (by simp at hl; exact hl.2)
    cases h0 : isN n0
    · have hno : (isN n0 && isN n1) = false ∨ n0 ≠ n1 := .inl (by simp [h0])
      go_enter Tryd.func8, Tryd.ntmps8
      go_wp2_with fail
      refine (law_long2 _ A0 A1 n0 c0 n1 c1 m0 m1 _ (by simp [go_sem]) (by simp [go_sem])).mono ?_
      rintro e w1 ⟨rfl, rfl⟩
      rw [hl]
      go_wp2_with fail
      refine (ref3_Is _ _ _ m0 _).mono ?_
      rintro e w2 ⟨rfl, rfl⟩
      rw [h0]
      go_wp2_with fail
      refine (alive3 _ (HT.out.alloc _)).mono ?_
      rintro e w3 ⟨rfl, B⟩
      have HB3 := Lib.hid ((HB0.out.alloc HB0.out.size _).trans (B.mono (HB0.out.alloc HB0.out.size _).size))
      have FT_3 := Lib.hid ((HT.out.alloc _).below B (Nat.le_refl _))
      have FS0_3 := Lib.hid ((FS0.out.alloc _).below B (Nat.le_refl _))
      have FS1_3 := Lib.hid ((FS1.out.alloc _).below B (Nat.le_refl _))
      clear B  HB0 HT FS0 FS1
      go_wp2_with fail
      refine (limb_Sign_no _ _ _ _ _ FS0_3.out h0).mono ?_
      rintro e w4 ⟨rfl, B⟩
      have HB4 := Lib.hid (HB3.out.trans (B.mono HB3.out.size))
      have FT_4 := Lib.hid (FT_3.out.below B (Nat.le_refl _))
      have FS0_4 := Lib.hid (FS0_3.out.below B (Nat.le_refl _))
      have FS1_4 := Lib.hid (FS1_3.out.below B (Nat.le_refl _))
      clear B  HB3 FT_3 FS0_3 FS1_3
      go_wp2_with fail
      refine (limb_Compare_no _ _ _ _ _ _ _ _ _ FS0_4.out FS1_4.out hno).mono ?_
      rintro e w5 ⟨rfl, B⟩
      have HB5 := Lib.hid (HB4.out.trans (B.mono HB4.out.size))
      have FT_5 := Lib.hid (FT_4.out.below B (Nat.le_refl _))
      have FS0_5 := Lib.hid (FS0_4.out.below B (Nat.le_refl _))
      have FS1_5 := Lib.hid (FS1_4.out.below B (Nat.le_refl _))
      clear B  HB4 FT_4 FS0_4 FS1_4
      go_wp2_with fail
      go_ret
      exact ⟨rfl, HB5.out⟩
    · by_cases hs : n0 = n1
      · obtain rfl := hs
        have he : ((n0 : Int) == (n0 : Int)) = true := by simp
        go_enter Tryd.func8, Tryd.ntmps8
        go_wp2_with fail
        refine (law_long2 _ A0 A1 n0 c0 n0 c1 m0 m0 _ (by simp [go_sem]) (by simp [go_sem])).mono ?_
        rintro e w1 ⟨rfl, rfl⟩
        rw [hl]
        go_wp2_with fail
        refine (ref3_Is _ _ _ m0 _).mono ?_
        rintro e w2 ⟨rfl, rfl⟩
        rw [h0]
        go_wp2_with fail
        refine (ref3_Value _ _ _ _ _ (FS0.out.alloc _) HF0.out (by omega)).mono ?_
        rintro e w3 ⟨⟨VX, kX, dX, rfl, bX, NX⟩, B⟩
        have HB3 := Lib.hid ((HB0.out.alloc HB0.out.size _).trans (B.mono (HB0.out.alloc HB0.out.size _).size))
        have FT_3 := Lib.hid ((HT.out.alloc _).below B (Nat.le_refl _))
        have FS0_3 := Lib.hid ((FS0.out.alloc _).below B (Nat.le_refl _))
        have FS1_3 := Lib.hid ((FS1.out.alloc _).below B (Nat.le_refl _))
        have FX_3 := Lib.hid NX
        clear B NX HB0 HT FS0 FS1
        go_wp2_with fail
        refine (ref3_Value _ _ _ _ _ FS0_3.out HF0.out (by omega)).mono ?_
        rintro e w4 ⟨⟨VZ, kZ, dZ, rfl, bZ, NZ⟩, B⟩
        have HB4 := Lib.hid (HB3.out.trans (B.mono HB3.out.size))
        have FT_4 := Lib.hid (FT_3.out.below B (Nat.le_refl _))
        have FS0_4 := Lib.hid (FS0_3.out.below B (Nat.le_refl _))
        have FS1_4 := Lib.hid (FS1_3.out.below B (Nat.le_refl _))
        have FZ_4 := Lib.hid NZ
        clear B NZ HB3 FT_3 FS0_3 FS1_3
        go_wp2_with fail
        refine (ref3_Value _ _ _ _ _ FS1_4.out HF1.out (by omega)).mono ?_
        rintro e w5 ⟨⟨VY, kY, dY, rfl, bY, NY⟩, B⟩
        have HB5 := Lib.hid (HB4.out.trans (B.mono HB4.out.size))
        have FT_5 := Lib.hid (FT_4.out.below B (Nat.le_refl _))
        have FS0_5 := Lib.hid (FS0_4.out.below B (Nat.le_refl _))
        have FS1_5 := Lib.hid (FS1_4.out.below B (Nat.le_refl _))
        have FZ_5 := Lib.hid (FZ_4.out.below B (Nat.le_refl _))
        have FY_5 := Lib.hid NY
        clear B NY HB4 FT_4 FS0_4 FS1_4 FZ_4
        go_wp2_with fail
        refine (ref3_Sub _ _ _ _ _ _ _ _ _ FZ_5.out FY_5.out (by omega) (by omega)).mono ?_
        rintro e w6 ⟨⟨VP, kP, dP, rfl, bP, NP⟩, B⟩
        have HB6 := Lib.hid (HB5.out.trans (B.mono HB5.out.size))
        have FT_6 := Lib.hid (FT_5.out.below B (Nat.le_refl _))
        have FS0_6 := Lib.hid (FS0_5.out.below B (Nat.le_refl _))
        have FS1_6 := Lib.hid (FS1_5.out.below B (Nat.le_refl _))
        have FZ_6 := Lib.hid (FZ_5.out.below B (Nat.le_refl _))
        have FY_6 := Lib.hid (FY_5.out.below B (Nat.le_refl _))
        have FP_6 := Lib.hid NP
        clear B NP HB5 FT_5 FS0_5 FS1_5 FZ_5 FY_5
        go_wp2_with fail
        refine (alive3 _ FT_6.out).mono ?_
        rintro e w7 ⟨rfl, B⟩
        have HB7 := Lib.hid (HB6.out.trans (B.mono HB6.out.size))
        have FT_7 := Lib.hid (FT_6.out.below B (Nat.le_refl _))
        have FS0_7 := Lib.hid (FS0_6.out.below B (Nat.le_refl _))
        have FS1_7 := Lib.hid (FS1_6.out.below B (Nat.le_refl _))
        clear B  HB6 FT_6 FS0_6 FS1_6
        go_wp2_with fail
        refine (limb_Sign _ _ _ _ _ FS0_7.out HF0.out h0 FT_7.out).mono ?_
        rintro e w8 ⟨rfl, B⟩
        have HB8 := Lib.hid (HB7.out.trans (B.mono HB7.out.size))
        have FT_8 := Lib.hid (FT_7.out.below B (Nat.le_refl _))
        have FS0_8 := Lib.hid (FS0_7.out.below B (Nat.le_refl _))
        have FS1_8 := Lib.hid (FS1_7.out.below B (Nat.le_refl _))
        clear B  HB7 FT_7 FS0_7 FS1_7
        go_wp2_with fail
        refine (limb_Compare _ _ _ _ _ _ _ _ FS0_8.out FS1_8.out HF0.out HF1.out h0 FT_8.out).mono ?_
        rintro e w9 ⟨rfl, B⟩
        have HB9 := Lib.hid (HB8.out.trans (B.mono HB8.out.size))
        have FT_9 := Lib.hid (FT_8.out.below B (Nat.le_refl _))
        have FS0_9 := Lib.hid (FS0_8.out.below B (Nat.le_refl _))
        have FS1_9 := Lib.hid (FS1_8.out.below B (Nat.le_refl _))
        clear B  HB8 FT_8 FS0_8 FS1_8
        go_wp2_with fail
        go_ret
        exact ⟨rfl, HB9.out⟩
      · have hno : (isN n0 && isN n1) = false ∨ n0 ≠ n1 := .inr hs
        have he : ((n0 : Int) == (n1 : Int)) = false := by simp; omega
        go_enter Tryd.func8, Tryd.ntmps8
        go_wp2_with fail
        refine (law_long2 _ A0 A1 n0 c0 n1 c1 m0 m1 _ (by simp [go_sem]) (by simp [go_sem])).mono ?_
        rintro e w1 ⟨rfl, rfl⟩
        rw [hl]
        go_wp2_with fail
        refine (ref3_Is _ _ _ m0 _).mono ?_
        rintro e w2 ⟨rfl, rfl⟩
        rw [h0]
        go_wp2_with fail
        refine (ref3_Value _ _ _ _ _ (FS0.out.alloc _) HF0.out (by omega)).mono ?_
        rintro e w3 ⟨⟨VX, kX, dX, rfl, bX, NX⟩, B⟩
        have HB3 := Lib.hid ((HB0.out.alloc HB0.out.size _).trans (B.mono (HB0.out.alloc HB0.out.size _).size))
        have FT_3 := Lib.hid ((HT.out.alloc _).below B (Nat.le_refl _))
        have FS0_3 := Lib.hid ((FS0.out.alloc _).below B (Nat.le_refl _))
        have FS1_3 := Lib.hid ((FS1.out.alloc _).below B (Nat.le_refl _))
        have FX_3 := Lib.hid NX
        clear B NX HB0 HT FS0 FS1
        go_wp2_with fail
        refine (alive3 _ FT_3.out).mono ?_
        rintro e w4 ⟨rfl, B⟩
        have HB4 := Lib.hid (HB3.out.trans (B.mono HB3.out.size))
        have FT_4 := Lib.hid (FT_3.out.below B (Nat.le_refl _))
        have FS0_4 := Lib.hid (FS0_3.out.below B (Nat.le_refl _))
        have FS1_4 := Lib.hid (FS1_3.out.below B (Nat.le_refl _))
        clear B  HB3 FT_3 FS0_3 FS1_3
        go_wp2_with fail
        refine (limb_Sign _ _ _ _ _ FS0_4.out HF0.out h0 FT_4.out).mono ?_
        rintro e w5 ⟨rfl, B⟩
        have HB5 := Lib.hid (HB4.out.trans (B.mono HB4.out.size))
        have FT_5 := Lib.hid (FT_4.out.below B (Nat.le_refl _))
        have FS0_5 := Lib.hid (FS0_4.out.below B (Nat.le_refl _))
        have FS1_5 := Lib.hid (FS1_4.out.below B (Nat.le_refl _))
        clear B  HB4 FT_4 FS0_4 FS1_4
        go_wp2_with fail
        refine (limb_Compare_no _ _ _ _ _ _ _ _ _ FS0_5.out FS1_5.out hno).mono ?_
        rintro e w6 ⟨rfl, B⟩
        have HB6 := Lib.hid (HB5.out.trans (B.mono HB5.out.size))
        have FT_6 := Lib.hid (FT_5.out.below B (Nat.le_refl _))
        have FS0_6 := Lib.hid (FS0_5.out.below B (Nat.le_refl _))
        have FS1_6 := Lib.hid (FS1_5.out.below B (Nat.le_refl _))
        clear B  HB5 FT_5 FS0_5 FS1_5
        go_wp2_with fail
        go_ret
        exact ⟨rfl, HB6.out⟩
  · go_enter Tryd.func8, Tryd.ntmps8
    go_wp2_with fail
    refine (law_long2 _ A0 A1 n0 c0 n1 c1 m0 m1 _ (by simp [go_sem]) (by simp [go_sem])).mono ?_
    rintro e w1 ⟨rfl, rfl⟩
    rw [hl]
    go_wp2_with fail
    refine (alive3 _ (HT.out.alloc _)).mono ?_
    rintro e w2 ⟨rfl, B⟩
    have HB2 := Lib.hid ((HB0.out.alloc HB0.out.size _).trans (B.mono (HB0.out.alloc HB0.out.size _).size))
    have FT_2 := Lib.hid ((HT.out.alloc _).below B (Nat.le_refl _))
    have FS0_2 := Lib.hid ((FS0.out.alloc _).below B (Nat.le_refl _))
    have FS1_2 := Lib.hid ((FS1.out.alloc _).below B (Nat.le_refl _))
    clear B  HB0 HT FS0 FS1
    go_wp2_with fail
    go_ret
    exact ⟨rfl, HB2.out⟩

theorem gTab0 : Tryd.prog.globalNamed "geofence/mask.words" = some 0 := by kernel_rfl
theorem gTabType : (Tryd.prog.globals[0]?).map (·.type) = some 69 := by kernel_rfl
theorem cellsT : Tryd.prog.cellsOf 69 = 2 := by kernel_rfl
theorem cellsE : Tryd.prog.cellsOf 38 = 1 := by kernel_rfl
theorem tableIs {W : World} (h : laidMetH Tryd.prog Rows.limbComparesRow.laid W) : Lib.TabIs Tryd.prog W "geofence/mask.words" .u64 [9223372036854775808, 18446744073709551615] :=
  Lib.tabIs_of_head (rest := _) gTab0 gTabType Tryd.underlying69 Tryd.underlying38 cellsE cellsT h
theorem table {W : World} (h : laidMetH Tryd.prog Rows.limbComparesRow.laid W) : TabM W := ⟨(tableIs h).cell gTab0 0 (by decide), (tableIs h).cell gTab0 1 (by decide)⟩

theorem contract (H : Type) (enc : TypeId × Value → H) (W : World) (base : Nat) (args : Array Value) (ds gs : List (DataW H)) (before : List MemPlace)
    (hval : ∀ (j : Nat) t v, Tryd.f8.params[j]? = some t → args[j]? = some v → Value.okWide Tryd.prog W .any base t v)
    (hW : DataW.Whole enc Tryd.prog Tryd.f8.params.toList Rows.limbComparesSpec.vars false W args.toList ds gs before) (hL : laidMetH Tryd.prog Rows.limbComparesRow.laid W) :
    Calls Tryd.prog 8 args W fun e W' => ∃ v, e = .returned v ∧ Rows.limbComparesSpec.post enc Tryd.prog Tryd.f8 false true false false W args v W' := by
  have hW' := hW
  obtain ⟨p, q, hA0, hV, rfl, hfz, hnd⟩ := hW
  have hA : DataW.TrodAll enc Tryd.prog W 0 (fun _ => true) true Tryd.f8.params.toList args.toList ds p := hA0
  rw [Tryd.params8] at hA hval
  obtain ⟨v0, vs0, d0, ds0, p0, q0, hargs, rfl, rfl, h0, r0⟩ := trodAll_cons hA
  obtain ⟨v1, vs1, d1, ds1, p1, q1, rfl, rfl, rfl, h1, r1⟩ := trodAll_cons r0
  obtain ⟨rfl, rfl, rfl⟩ := trodAll_nil r1
  obtain rfl : args = #[v0, v1] := by cases args; simp_all
  obtain ⟨rfl, rfl⟩ := trodVars_none hV
  have k0 := h0
  have lt0 : ∀ x ∈ p0, x.block < W.heap.size := by obtain ⟨m, hm⟩ := k0; exact DataW.trod_lt m _ _ _ hm
  have k1 := h1
  have lt1 : ∀ x ∈ p1, x.block < W.heap.size := by obtain ⟨m, hm⟩ := k1; exact DataW.trod_lt m _ _ _ hm
  obtain ⟨A0, n0, c0, rfl⟩ := okWide_slice Tryd.underlying22 (hval 0 22 v0 rfl rfl)
  obtain ⟨x0, f0, s0⟩ := Op.open_words (w := W) Tryd.underlying22 Tryd.underlying38 (by kernel_rfl) h0
  obtain ⟨A1, n1, c1, rfl⟩ := okWide_slice Tryd.underlying22 (hval 1 22 v1 rfl rfl)
  obtain ⟨x1, f1, s1⟩ := Op.open_words (w := W) Tryd.underlying22 Tryd.underlying38 (by kernel_rfl) h1
  clear hA0
  refine (walk A0 n0 c0 x0 f0 s0 A1 n1 c1 x1 f1 s1 (table hL)).mono fun e W' ⟨he, bel⟩ => ?_
  subst he
  exact ⟨_, rfl, _, _, _, [], _, [], hW', trodAll_mk1 (shut_bool Tryd.underlying4 _), (trodAll_cons_mk (Below.trod laidOut (by kernel_rfl) (of_decide_eq_true (by kernel_rfl)) k0 bel lt0) (trodAll_cons_mk (Below.trod laidOut (by kernel_rfl) (of_decide_eq_true (by kernel_rfl)) k1 bel lt1) trodAll_mk0)), rfl, bel.frame _, fun h => by cases h⟩

noncomputable def laidWorld (os : Os) : World :=
  { World.holding Tryd.prog os ⟨#[], #[], []⟩ with heap := (World.holding Tryd.prog os ⟨#[], #[], []⟩).heap.modify 0 fun
      | .cells _ t frozen => .cells #[.int .u64 9223372036854775808, .int .u64 18446744073709551615] t frozen
      | o => o }
theorem laid_met (os : Os) : laidMet Tryd.prog Rows.limbComparesRow.laid ((laidWorld os).forCall (fun _ _ => 0) ⟨#[], #[.slice none 0 0, .slice none 0 0], []⟩).memory :=
  laidMet_of_run' 8 (by kernel_rfl) (by kernel_rfl)
theorem reads (os : Os) {H : Type} (enc : TypeId × Value → H) : ∃ places, DataW.whole enc Tryd.prog ((laidWorld os).forCall (fun _ _ => 0) ⟨#[], #[.slice none 0 0, .slice none 0 0], []⟩).memory Tryd.f8.params.toList Rows.limbComparesSpec.vars false (#[.slice none 0 0, .slice none 0 0] : Array Value).toList 8 = some ([.nil, .nil], [], places) :=
  ⟨[], by kernel_rfl⟩

set_option maxRecDepth 100000 in
theorem lifted (os : Os) (started : os.Started) (H : Type) (enc : TypeId × Value → H) (F : Stop.Interp) :
    ReturnsInHanded {} Tryd.checked os 8 .any ((OpenSpec.ofChange Rows.limbComparesSpec).preRow enc Tryd.prog Tryd.f8 Rows.limbComparesRow.domain false Rows.limbComparesRow.laid) (((OpenSpec.ofChange Rows.limbComparesSpec).at F).post enc Tryd.prog Tryd.f8 false true false false) := by
  obtain ⟨places, hx⟩ := reads os enc
  refine returnsInHanded_of_row (C := Tryd.checked) (s := OpenSpec.ofChange Rows.limbComparesSpec) own started (by kernel_rfl) Tryd.func8
    (witness_row_at (enc := enc) (C := Tryd.checked) false (laidWorld os) #[.slice none 0 0, .slice none 0 0] rfl (by kernel_rfl) (by kernel_rfl) (by kernel_rfl)
      (OpenSpec.preRow_of_cond 8 hx (by kernel_rfl) (fun k hk => by cases hk) (by kernel_rfl) (laid_met os))) ?_
  intro W base args ds gs before hval hW _ _ _ hL _ _
  exact contract H enc W base args ds gs before hval hW hL

theorem said : Rows.LimbComparesSaid :=
  OpenClaim.holds_of_cond 8 Tryd.f8 rfl rfl rfl rfl rfl rfl rfl ⟨rfl, rfl, rfl, rfl, rfl⟩ rfl rfl rfl rfl rfl (by kernel_rfl) Tryd.func8 (by kernel_rfl)
    (of_decide_eq_true (by kernel_rfl)) (by unfold Func.isWrapper; first | (rw [if_pos (by decide +kernel)]; kernel_rfl) | (rw [if_neg (by decide +kernel)]; exact ⟨rfl, rfl⟩))
    (fun os started H enc _ F => by rw [OpenClaim.pre_eq_preRow]; exact lifted os started H enc F)

theorem plain (f : FuncId) (fn : Func) (hf : Tryd.pinned.checked.prog.funcNamed "geofence/geofencelaw03.LimbCompares" = some f) (hfn : Tryd.pinned.checked.prog.funcs[f]? = some fn) :
    false = Tryd.pinned.checked.prog.looks [] ∧ ∀ (j : Nat) t, fn.params[j]? = some t → Tryd.pinned.checked.prog.wantsStandIn t = false := by
  obtain rfl : f = 8 := Option.some.inj ((show Tryd.prog.funcNamed "geofence/geofencelaw03.LimbCompares" = some 8 by kernel_rfl).symm.trans hf) |>.symm
  obtain rfl : fn = Tryd.f8 := (Option.some.inj (Tryd.func8.symm.trans hfn)).symm
  refine ⟨by kernel_rfl, fun j t ht => ?_⟩
  rw [Tryd.params8] at ht
  have hm := Array.mem_of_getElem? ht
  simp at hm
  obtain rfl := hm
  exact (show Tryd.prog.wantsStandIn 22 = false by kernel_rfl)

/-- THE CARD -/
theorem card : Rows.LimbComparesCardSaid :=
  Claim7.holds_tied_plain_at .later [] _ _ _ _ said (fun _ h => by cases h) (by kernel_rfl) (fun _ h => by cases h) limbCompares_row_tie rfl ⟨rfl, rfl⟩ (by kernel_rfl) rfl plain (by kernel_rfl)
#print axioms card
end Go.Proofs.YteadkjbdbljbfaaDoor.limbCompares
