/- LimbConverts: for every input the law returns true, and each argument reads afterwards as it read before; the package variable that the row lists holds what it lists. -/
import Derived.Test.YteadkjbdbljbfaaDoorCards
import Derived.Test.YteadkjbdbljbfaaDoorTie
import Derived.Test.YteadkjbdbljbfaaDoorLaw3b
import Derived.Test.YteadkjbdbljbfaaDoorOpenSl
import Derived.WalkKit
import Derived.ProofKit
import Derived.OpenShut
import Derived.Below
import Derived.Deep.DeepHandedRow
import Derived.Lib.LaidTab
namespace Go.Proofs.YteadkjbdbljbfaaDoor.limbConverts
open Go.ChangeShapes Go.WideShapes Go.ChangeAt Go.RowKit Wd
set_option linter.unusedVariables false
set_option linter.unusedSimpArgs false

theorem own : ownKnob Tryd.prog.godebug = none := by kernel_rfl
theorem laidOut : laidOutB Tryd.prog = true := by kernel_rfl

set_option maxHeartbeats 1000000 in
theorem walk {w : World} (a0 : Int) (w0 : (Lit.int .i64 a0).wf = true) (A1 : Option Addr) (n1 c1 : Nat) (x1 : Int) (f1 : Fit n1 x1) (s1 : Sl w .u64 A1 n1 c1 (lmb x1)) (a2 : Int) (w2 : (Lit.int .i64 a2).wf = true) (hT : TabM w) :
    Calls Tryd.prog 3 #[.int .i64 a0, .slice A1 n1 c1, .int .i64 a2] w fun e w' => e = .returned (.bool true) ∧ Below w.heap.size w w' := by
  have HT := Lib.hid hT; have HB0 := Lib.hid (Below.refl w.heap.size w)
  have FS1 := Lib.hid s1; have m1 : n1 ≤ maxLen := Nat.le_trans s1.cap s1.max
  have HF1 := Lib.hid f1
  have i0 := isI_of_wf w0; have i2 := isI_of_wf w2
  clear hT s1 f1
  cases hl : lng n1
  · have hl1 : n1 ≤ 50 := lng_false hl
    by_cases hr : a2 < 1 ∨ 8 < a2
    · rcases (by omega : a2 < 1 ∨ (¬ a2 < 1 ∧ 8 < a2)) with hq | hq
      · have hd1 : decide (a2 < 1) = true := by simpa using hq
        go_enter Tryd.func3, Tryd.ntmps3
        go_wp2_with fail
        refine (law_long1 _ A1 n1 c1 m1 _ (by simp [go_sem])).mono ?_
        rintro e w1 ⟨rfl, rfl⟩
        rw [hl]
        go_wp2_with fail
        refine (limb_From_no _ _ i0 hr i2 _).mono ?_
        rintro e w2 ⟨rfl, B⟩
        have HB2 := Lib.hid ((HB0.out.alloc HB0.out.size _).trans (B.mono (HB0.out.alloc HB0.out.size _).size))
        have FT_2 := Lib.hid ((HT.out.alloc _).below B (Nat.le_refl _))
        have FS1_2 := Lib.hid ((FS1.out.alloc _).below B (Nat.le_refl _))
        clear B  HB0 HT FS1
        go_wp2_with fail
        refine (limb_Extend_no _ _ _ _ _ _ FS1_2.out (.inr hr) i2).mono ?_
        rintro e w3 ⟨rfl, B⟩
        have HB3 := Lib.hid (HB2.out.trans (B.mono HB2.out.size))
        have FT_3 := Lib.hid (FT_2.out.below B (Nat.le_refl _))
        have FS1_3 := Lib.hid (FS1_2.out.below B (Nat.le_refl _))
        clear B  HB2 FT_2 FS1_2
        go_wp2_with fail
        refine (alive3 _ FT_3.out).mono ?_
        rintro e w4 ⟨rfl, B⟩
        have HB4 := Lib.hid (HB3.out.trans (B.mono HB3.out.size))
        have FT_4 := Lib.hid (FT_3.out.below B (Nat.le_refl _))
        have FS1_4 := Lib.hid (FS1_3.out.below B (Nat.le_refl _))
        clear B  HB3 FT_3 FS1_3
        go_wp2_with fail
        go_ret
        exact ⟨rfl, HB4.out⟩
      · have hd1 : decide (a2 < 1) = false := by simpa using hq.1
        have hd2 : decide (8 < a2) = true := by simpa using hq.2
        go_enter Tryd.func3, Tryd.ntmps3
        go_wp2_with fail
        refine (law_long1 _ A1 n1 c1 m1 _ (by simp [go_sem])).mono ?_
        rintro e w1 ⟨rfl, rfl⟩
        rw [hl]
        go_wp2_with fail
        refine (limb_From_no _ _ i0 hr i2 _).mono ?_
        rintro e w2 ⟨rfl, B⟩
        have HB2 := Lib.hid ((HB0.out.alloc HB0.out.size _).trans (B.mono (HB0.out.alloc HB0.out.size _).size))
        have FT_2 := Lib.hid ((HT.out.alloc _).below B (Nat.le_refl _))
        have FS1_2 := Lib.hid ((FS1.out.alloc _).below B (Nat.le_refl _))
        clear B  HB0 HT FS1
        go_wp2_with fail
        refine (limb_Extend_no _ _ _ _ _ _ FS1_2.out (.inr hr) i2).mono ?_
        rintro e w3 ⟨rfl, B⟩
        have HB3 := Lib.hid (HB2.out.trans (B.mono HB2.out.size))
        have FT_3 := Lib.hid (FT_2.out.below B (Nat.le_refl _))
        have FS1_3 := Lib.hid (FS1_2.out.below B (Nat.le_refl _))
        clear B  HB2 FT_2 FS1_2
        go_wp2_with fail
        refine (alive3 _ FT_3.out).mono ?_
        rintro e w4 ⟨rfl, B⟩
        have HB4 := Lib.hid (HB3.out.trans (B.mono HB3.out.size))
        have FT_4 := Lib.hid (FT_3.out.below B (Nat.le_refl _))
        have FS1_4 := Lib.hid (FS1_3.out.below B (Nat.le_refl _))
        clear B  HB3 FT_3 FS1_3
        go_wp2_with fail
        go_ret
        exact ⟨rfl, HB4.out⟩
    · obtain ⟨q, rfl⟩ : ∃ q : Nat, a2 = q := ⟨a2.toNat, by omega⟩
      have hd1 : decide ((q : Int) < 1) = false := by simp; omega
      have hd2 : decide (8 < (q : Int)) = false := by simp; omega
      have hq : isN q = true := by simp [isN]; omega
      cases h1 : isN n1
      · go_enter Tryd.func3, Tryd.ntmps3
        go_wp2_with fail
        refine (law_long1 _ A1 n1 c1 m1 _ (by simp [go_sem])).mono ?_
        rintro e w1 ⟨rfl, rfl⟩
        rw [hl]
        go_wp2_with fail
        refine (limb_From _ _ q rfl i0 hq _).mono ?_
        rintro e w2 ⟨G, cg, rfl, SG, B⟩
        have HB2 := Lib.hid ((HB0.out.alloc HB0.out.size _).trans (B.mono (HB0.out.alloc HB0.out.size _).size))
        have FT_2 := Lib.hid ((HT.out.alloc _).below B (Nat.le_refl _))
        have FS1_2 := Lib.hid ((FS1.out.alloc _).below B (Nat.le_refl _))
        have FG_2 := Lib.hid SG
        clear B SG HB0 HT FS1
        go_wp2_with fail
        refine (limb_Extend_no _ _ _ _ _ _ FS1_2.out (.inl h1) i2).mono ?_
        rintro e w3 ⟨rfl, B⟩
        have HB3 := Lib.hid (HB2.out.trans (B.mono HB2.out.size))
        have FT_3 := Lib.hid (FT_2.out.below B (Nat.le_refl _))
        have FS1_3 := Lib.hid (FS1_2.out.below B (Nat.le_refl _))
        have FG_3 := Lib.hid (FG_2.out.below B (Nat.le_refl _))
        clear B  HB2 FT_2 FS1_2 FG_2
        go_wp2_with fail
        refine (ref3_Int _ i0 _).mono ?_
        rintro e w4 ⟨⟨VP, kP, dP, rfl, bP, NP⟩, B⟩
        have HB4 := Lib.hid (HB3.out.trans (B.mono HB3.out.size))
        have FT_4 := Lib.hid (FT_3.out.below B (Nat.le_refl _))
        have FS1_4 := Lib.hid (FS1_3.out.below B (Nat.le_refl _))
        have FG_4 := Lib.hid (FG_3.out.below B (Nat.le_refl _))
        have FP_4 := Lib.hid NP
        clear B NP HB3 FT_3 FS1_3 FG_3
        go_wp2_with fail
        refine (ref3_Limbs _ _ _ _ _ q rfl _ FP_4.out (by omega) (by omega)).mono ?_
        rintro e w5 ⟨⟨VL, dL, rfl, SL⟩, B⟩
        have HB5 := Lib.hid (HB4.out.trans (B.mono HB4.out.size))
        have FT_5 := Lib.hid (FT_4.out.below B (Nat.le_refl _))
        have FS1_5 := Lib.hid (FS1_4.out.below B (Nat.le_refl _))
        have FG_5 := Lib.hid (FG_4.out.below B (Nat.le_refl _))
        have FP_5 := Lib.hid (FP_4.out.below B (Nat.le_refl _))
        have FL_5 := Lib.hid SL
        clear B SL HB4 FT_4 FS1_4 FG_4 FP_4
        go_wp2_with fail
        refine (ref3_Same _ _ _ _ _ _ _ _ FG_5.out FL_5.out (fun _ _ => rfl)).mono ?_
        rintro e w6 ⟨rfl, B⟩
        have HB6 := Lib.hid (HB5.out.trans (B.mono HB5.out.size))
        have FT_6 := Lib.hid (FT_5.out.below B (Nat.le_refl _))
        have FS1_6 := Lib.hid (FS1_5.out.below B (Nat.le_refl _))
        have FG_6 := Lib.hid (FG_5.out.below B (Nat.le_refl _))
        have FP_6 := Lib.hid (FP_5.out.below B (Nat.le_refl _))
        have FL_6 := Lib.hid (FL_5.out.below B (Nat.le_refl _))
        clear B  HB5 FT_5 FS1_5 FG_5 FP_5 FL_5
        go_wp2_with fail
        refine (ref3_Is _ _ _ m1 _).mono ?_
        rintro e w7 ⟨rfl, rfl⟩
        rw [h1]
        go_wp2_with fail
        refine (alive3 _ FT_6.out).mono ?_
        rintro e w8 ⟨rfl, B⟩
        have HB8 := Lib.hid (HB6.out.trans (B.mono HB6.out.size))
        have FT_8 := Lib.hid (FT_6.out.below B (Nat.le_refl _))
        have FS1_8 := Lib.hid (FS1_6.out.below B (Nat.le_refl _))
        clear B  HB6 FT_6 FS1_6
        go_wp2_with fail
        go_ret
        exact ⟨rfl, HB8.out⟩
      · go_enter Tryd.func3, Tryd.ntmps3
        go_wp2_with fail
        refine (law_long1 _ A1 n1 c1 m1 _ (by simp [go_sem])).mono ?_
        rintro e w1 ⟨rfl, rfl⟩
        rw [hl]
        go_wp2_with fail
        refine (limb_From _ _ q rfl i0 hq _).mono ?_
        rintro e w2 ⟨G, cg, rfl, SG, B⟩
        have HB2 := Lib.hid ((HB0.out.alloc HB0.out.size _).trans (B.mono (HB0.out.alloc HB0.out.size _).size))
        have FT_2 := Lib.hid ((HT.out.alloc _).below B (Nat.le_refl _))
        have FS1_2 := Lib.hid ((FS1.out.alloc _).below B (Nat.le_refl _))
        have FG_2 := Lib.hid SG
        clear B SG HB0 HT FS1
        go_wp2_with fail
        refine (limb_Extend _ _ _ _ _ q rfl _ FS1_2.out HF1.out h1 hq).mono ?_
        rintro e w3 ⟨E, ce, rfl, SE, B⟩
        have HB3 := Lib.hid (HB2.out.trans (B.mono HB2.out.size))
        have FT_3 := Lib.hid (FT_2.out.below B (Nat.le_refl _))
        have FS1_3 := Lib.hid (FS1_2.out.below B (Nat.le_refl _))
        have FG_3 := Lib.hid (FG_2.out.below B (Nat.le_refl _))
        have FE_3 := Lib.hid SE
        clear B SE HB2 FT_2 FS1_2 FG_2
        go_wp2_with fail
        refine (ref3_Int _ i0 _).mono ?_
        rintro e w4 ⟨⟨VP, kP, dP, rfl, bP, NP⟩, B⟩
        have HB4 := Lib.hid (HB3.out.trans (B.mono HB3.out.size))
        have FT_4 := Lib.hid (FT_3.out.below B (Nat.le_refl _))
        have FS1_4 := Lib.hid (FS1_3.out.below B (Nat.le_refl _))
        have FG_4 := Lib.hid (FG_3.out.below B (Nat.le_refl _))
        have FE_4 := Lib.hid (FE_3.out.below B (Nat.le_refl _))
        have FP_4 := Lib.hid NP
        clear B NP HB3 FT_3 FS1_3 FG_3 FE_3
        go_wp2_with fail
        refine (ref3_Limbs _ _ _ _ _ q rfl _ FP_4.out (by omega) (by omega)).mono ?_
        rintro e w5 ⟨⟨VL, dL, rfl, SL⟩, B⟩
        have HB5 := Lib.hid (HB4.out.trans (B.mono HB4.out.size))
        have FT_5 := Lib.hid (FT_4.out.below B (Nat.le_refl _))
        have FS1_5 := Lib.hid (FS1_4.out.below B (Nat.le_refl _))
        have FG_5 := Lib.hid (FG_4.out.below B (Nat.le_refl _))
        have FE_5 := Lib.hid (FE_4.out.below B (Nat.le_refl _))
        have FP_5 := Lib.hid (FP_4.out.below B (Nat.le_refl _))
        have FL_5 := Lib.hid SL
        clear B SL HB4 FT_4 FS1_4 FG_4 FE_4 FP_4
        go_wp2_with fail
        refine (ref3_Same _ _ _ _ _ _ _ _ FG_5.out FL_5.out (fun _ _ => rfl)).mono ?_
        rintro e w6 ⟨rfl, B⟩
        have HB6 := Lib.hid (HB5.out.trans (B.mono HB5.out.size))
        have FT_6 := Lib.hid (FT_5.out.below B (Nat.le_refl _))
        have FS1_6 := Lib.hid (FS1_5.out.below B (Nat.le_refl _))
        have FG_6 := Lib.hid (FG_5.out.below B (Nat.le_refl _))
        have FE_6 := Lib.hid (FE_5.out.below B (Nat.le_refl _))
        have FP_6 := Lib.hid (FP_5.out.below B (Nat.le_refl _))
        have FL_6 := Lib.hid (FL_5.out.below B (Nat.le_refl _))
        clear B  HB5 FT_5 FS1_5 FG_5 FE_5 FP_5 FL_5
        go_wp2_with fail
        refine (ref3_Is _ _ _ m1 _).mono ?_
        rintro e w7 ⟨rfl, rfl⟩
        rw [h1]
        go_wp2_with fail
        refine (alive3 _ FT_6.out).mono ?_
        rintro e w8 ⟨rfl, B⟩
        have HB8 := Lib.hid (HB6.out.trans (B.mono HB6.out.size))
        have FT_8 := Lib.hid (FT_6.out.below B (Nat.le_refl _))
        have FS1_8 := Lib.hid (FS1_6.out.below B (Nat.le_refl _))
        have FE_8 := Lib.hid (FE_6.out.below B (Nat.le_refl _))
        clear B  HB6 FT_6 FS1_6 FE_6
        go_wp2_with fail
        refine (ref3_Value _ _ _ _ _ FS1_8.out HF1.out (by omega)).mono ?_
        rintro e w9 ⟨⟨VX, kX, dX, rfl, bX, NX⟩, B⟩
        have HB9 := Lib.hid (HB8.out.trans (B.mono HB8.out.size))
        have FT_9 := Lib.hid (FT_8.out.below B (Nat.le_refl _))
        have FS1_9 := Lib.hid (FS1_8.out.below B (Nat.le_refl _))
        have FE_9 := Lib.hid (FE_8.out.below B (Nat.le_refl _))
        have FX_9 := Lib.hid NX
        clear B NX HB8 FT_8 FS1_8 FE_8
        go_wp2_with fail
        refine (ref3_Limbs _ _ _ _ _ q rfl _ FX_9.out (by omega) (by omega)).mono ?_
        rintro e w10 ⟨⟨VM, dM, rfl, SL⟩, B⟩
        have HB10 := Lib.hid (HB9.out.trans (B.mono HB9.out.size))
        have FT_10 := Lib.hid (FT_9.out.below B (Nat.le_refl _))
        have FS1_10 := Lib.hid (FS1_9.out.below B (Nat.le_refl _))
        have FE_10 := Lib.hid (FE_9.out.below B (Nat.le_refl _))
        have FX_10 := Lib.hid (FX_9.out.below B (Nat.le_refl _))
        have FL_10 := Lib.hid SL
        clear B SL HB9 FT_9 FS1_9 FE_9 FX_9
        go_wp2_with fail
        refine (ref3_Same _ _ _ _ _ _ _ _ FE_10.out FL_10.out (fun _ _ => rfl)).mono ?_
        rintro e w11 ⟨rfl, B⟩
        have HB11 := Lib.hid (HB10.out.trans (B.mono HB10.out.size))
        have FT_11 := Lib.hid (FT_10.out.below B (Nat.le_refl _))
        have FS1_11 := Lib.hid (FS1_10.out.below B (Nat.le_refl _))
        have FE_11 := Lib.hid (FE_10.out.below B (Nat.le_refl _))
        have FX_11 := Lib.hid (FX_10.out.below B (Nat.le_refl _))
        have FL_11 := Lib.hid (FL_10.out.below B (Nat.le_refl _))
        clear B  HB10 FT_10 FS1_10 FE_10 FX_10 FL_10
        go_wp2_with fail
        go_ret
        exact ⟨rfl, HB11.out⟩
  · go_enter Tryd.func3, Tryd.ntmps3
    go_wp2_with fail
    refine (law_long1 _ A1 n1 c1 m1 _ (by simp [go_sem])).mono ?_
    rintro e w1 ⟨rfl, rfl⟩
    rw [hl]
    go_wp2_with fail
    refine (alive3 _ (HT.out.alloc _)).mono ?_
    rintro e w2 ⟨rfl, B⟩
    have HB2 := Lib.hid ((HB0.out.alloc HB0.out.size _).trans (B.mono (HB0.out.alloc HB0.out.size _).size))
    have FT_2 := Lib.hid ((HT.out.alloc _).below B (Nat.le_refl _))
    have FS1_2 := Lib.hid ((FS1.out.alloc _).below B (Nat.le_refl _))
    clear B  HB0 HT FS1
    go_wp2_with fail
    go_ret
    exact ⟨rfl, HB2.out⟩

theorem gTab0 : Tryd.prog.globalNamed "geofence/mask.words" = some 0 := by kernel_rfl
theorem gTabType : (Tryd.prog.globals[0]?).map (·.type) = some 69 := by kernel_rfl
theorem cellsT : Tryd.prog.cellsOf 69 = 2 := by kernel_rfl
theorem cellsE : Tryd.prog.cellsOf 38 = 1 := by kernel_rfl
theorem tableIs {W : World} (h : laidMetH Tryd.prog Rows.limbConvertsRow.laid W) : Lib.TabIs Tryd.prog W "geofence/mask.words" .u64 [9223372036854775808, 18446744073709551615] :=
  Lib.tabIs_of_head (rest := _) gTab0 gTabType Tryd.underlying69 Tryd.underlying38 cellsE cellsT h
theorem table {W : World} (h : laidMetH Tryd.prog Rows.limbConvertsRow.laid W) : TabM W := ⟨(tableIs h).cell gTab0 0 (by decide), (tableIs h).cell gTab0 1 (by decide)⟩

theorem contract (H : Type) (enc : TypeId × Value → H) (W : World) (base : Nat) (args : Array Value) (ds gs : List (DataW H)) (before : List MemPlace)
    (hval : ∀ (j : Nat) t v, Tryd.f3.params[j]? = some t → args[j]? = some v → Value.okWide Tryd.prog W .any base t v)
    (hW : DataW.Whole enc Tryd.prog Tryd.f3.params.toList Rows.limbConvertsSpec.vars false W args.toList ds gs before) (hL : laidMetH Tryd.prog Rows.limbConvertsRow.laid W) :
    Calls Tryd.prog 3 args W fun e W' => ∃ v, e = .returned v ∧ Rows.limbConvertsSpec.post enc Tryd.prog Tryd.f3 false true false false W args v W' := by
  have hW' := hW
  obtain ⟨p, q, hA0, hV, rfl, hfz, hnd⟩ := hW
  have hA : DataW.TrodAll enc Tryd.prog W 0 (fun _ => true) true Tryd.f3.params.toList args.toList ds p := hA0
  rw [Tryd.params3] at hA hval
  obtain ⟨v0, vs0, d0, ds0, p0, q0, hargs, rfl, rfl, h0, r0⟩ := trodAll_cons hA
  obtain ⟨v1, vs1, d1, ds1, p1, q1, rfl, rfl, rfl, h1, r1⟩ := trodAll_cons r0
  obtain ⟨v2, vs2, d2, ds2, p2, q2, rfl, rfl, rfl, h2, r2⟩ := trodAll_cons r1
  obtain ⟨rfl, rfl, rfl⟩ := trodAll_nil r2
  obtain rfl : args = #[v0, v1, v2] := by cases args; simp_all
  obtain ⟨rfl, rfl⟩ := trodVars_none hV
  have k0 := h0
  have lt0 : ∀ x ∈ p0, x.block < W.heap.size := by obtain ⟨m, hm⟩ := k0; exact DataW.trod_lt m _ _ _ hm
  have k1 := h1
  have lt1 : ∀ x ∈ p1, x.block < W.heap.size := by obtain ⟨m, hm⟩ := k1; exact DataW.trod_lt m _ _ _ hm
  have k2 := h2
  have lt2 : ∀ x ∈ p2, x.block < W.heap.size := by obtain ⟨m, hm⟩ := k2; exact DataW.trod_lt m _ _ _ hm
  obtain ⟨a0, rfl, rfl, rfl, w0⟩ := open_int Tryd.underlying2 (hval 0 2 v0 rfl rfl) h0
  obtain ⟨A1, n1, c1, rfl⟩ := okWide_slice Tryd.underlying22 (hval 1 22 v1 rfl rfl)
  obtain ⟨x1, f1, s1⟩ := Op.open_words (w := W) Tryd.underlying22 Tryd.underlying38 (by kernel_rfl) h1
  obtain ⟨a2, rfl, rfl, rfl, w2⟩ := open_int Tryd.underlying3 (hval 2 3 v2 rfl rfl) h2
  clear hA0
  refine (walk a0 w0 A1 n1 c1 x1 f1 s1 a2 w2 (table hL)).mono fun e W' ⟨he, bel⟩ => ?_
  subst he
  exact ⟨_, rfl, _, _, _, [], _, [], hW', trodAll_mk1 (shut_bool Tryd.underlying4 _), (trodAll_cons_mk (Below.trod laidOut (by kernel_rfl) (of_decide_eq_true (by kernel_rfl)) k0 bel lt0) (trodAll_cons_mk (Below.trod laidOut (by kernel_rfl) (of_decide_eq_true (by kernel_rfl)) k1 bel lt1) (trodAll_cons_mk (Below.trod laidOut (by kernel_rfl) (of_decide_eq_true (by kernel_rfl)) k2 bel lt2) trodAll_mk0))), rfl, bel.frame _, fun h => by cases h⟩

noncomputable def laidWorld (os : Os) : World :=
  { World.holding Tryd.prog os ⟨#[], #[], []⟩ with heap := (World.holding Tryd.prog os ⟨#[], #[], []⟩).heap.modify 0 fun
      | .cells _ t frozen => .cells #[.int .u64 9223372036854775808, .int .u64 18446744073709551615] t frozen
      | o => o }
theorem laid_met (os : Os) : laidMet Tryd.prog Rows.limbConvertsRow.laid ((laidWorld os).forCall (fun _ _ => 0) ⟨#[], #[.int .i64 0, .slice none 0 0, .int .i64 0], []⟩).memory :=
  laidMet_of_run' 8 (by kernel_rfl) (by kernel_rfl)
theorem reads (os : Os) {H : Type} (enc : TypeId × Value → H) : ∃ places, DataW.whole enc Tryd.prog ((laidWorld os).forCall (fun _ _ => 0) ⟨#[], #[.int .i64 0, .slice none 0 0, .int .i64 0], []⟩).memory Tryd.f3.params.toList Rows.limbConvertsSpec.vars false (#[.int .i64 0, .slice none 0 0, .int .i64 0] : Array Value).toList 8 = some ([.lit (.int .i64 0), .nil, .lit (.int .i64 0)], [], places) :=
  ⟨[], by kernel_rfl⟩

set_option maxRecDepth 100000 in
theorem lifted (os : Os) (started : os.Started) (H : Type) (enc : TypeId × Value → H) (F : Stop.Interp) :
    ReturnsInHanded {} Tryd.checked os 3 .any ((OpenSpec.ofChange Rows.limbConvertsSpec).preRow enc Tryd.prog Tryd.f3 Rows.limbConvertsRow.domain false Rows.limbConvertsRow.laid) (((OpenSpec.ofChange Rows.limbConvertsSpec).at F).post enc Tryd.prog Tryd.f3 false true false false) := by
  obtain ⟨places, hx⟩ := reads os enc
  refine returnsInHanded_of_row (C := Tryd.checked) (s := OpenSpec.ofChange Rows.limbConvertsSpec) own started (by kernel_rfl) Tryd.func3
    (witness_row_at (enc := enc) (C := Tryd.checked) false (laidWorld os) #[.int .i64 0, .slice none 0 0, .int .i64 0] rfl (by kernel_rfl) (by kernel_rfl) (by kernel_rfl)
      (OpenSpec.preRow_of_cond 8 hx (by kernel_rfl) (fun k hk => by cases hk) (by kernel_rfl) (laid_met os))) ?_
  intro W base args ds gs before hval hW _ _ _ hL _ _
  exact contract H enc W base args ds gs before hval hW hL

theorem said : Rows.LimbConvertsSaid :=
  OpenClaim.holds_of_cond 3 Tryd.f3 rfl rfl rfl rfl rfl rfl rfl ⟨rfl, rfl, rfl, rfl, rfl⟩ rfl rfl rfl rfl rfl (by kernel_rfl) Tryd.func3 (by kernel_rfl)
    (of_decide_eq_true (by kernel_rfl)) (by unfold Func.isWrapper; first | (rw [if_pos (by decide +kernel)]; kernel_rfl) | (rw [if_neg (by decide +kernel)]; exact ⟨rfl, rfl⟩))
    (fun os started H enc _ F => by rw [OpenClaim.pre_eq_preRow]; exact lifted os started H enc F)

theorem plain (f : FuncId) (fn : Func) (hf : Tryd.pinned.checked.prog.funcNamed "geofence/geofencelaw03.LimbConverts" = some f) (hfn : Tryd.pinned.checked.prog.funcs[f]? = some fn) :
    false = Tryd.pinned.checked.prog.looks [] ∧ ∀ (j : Nat) t, fn.params[j]? = some t → Tryd.pinned.checked.prog.wantsStandIn t = false := by
  obtain rfl : f = 3 := Option.some.inj ((show Tryd.prog.funcNamed "geofence/geofencelaw03.LimbConverts" = some 3 by kernel_rfl).symm.trans hf) |>.symm
  obtain rfl : fn = Tryd.f3 := (Option.some.inj (Tryd.func3.symm.trans hfn)).symm
  refine ⟨by kernel_rfl, fun j t ht => ?_⟩
  rw [Tryd.params3] at ht
  have hm := Array.mem_of_getElem? ht
  simp at hm
  rcases hm with rfl | rfl | rfl
  · exact (show Tryd.prog.wantsStandIn 2 = false by kernel_rfl)
  · exact (show Tryd.prog.wantsStandIn 22 = false by kernel_rfl)
  · exact (show Tryd.prog.wantsStandIn 3 = false by kernel_rfl)

/-- THE CARD -/
theorem card : Rows.LimbConvertsCardSaid :=
  Claim7.holds_tied_plain_at .later [] _ _ _ _ said (fun _ h => by cases h) (by kernel_rfl) (fun _ h => by cases h) limbConverts_row_tie rfl ⟨rfl, rfl⟩ (by kernel_rfl) rfl plain (by kernel_rfl)
#print axioms card
end Go.Proofs.YteadkjbdbljbfaaDoor.limbConverts
