/- LimbIsRing: for every input the law returns true, and each argument reads afterwards as it read before; the package variable that the row lists holds what it lists. -/
import Derived.Test.YteadkjbdbljbfaaDoorCards
import Derived.Test.YteadkjbdbljbfaaDoorTie
import Derived.Test.YteadkjbdbljbfaaDoorLaw3c
import Derived.Test.YteadkjbdbljbfaaDoorOpenSl
import Derived.WalkKit
import Derived.ProofKit
import Derived.OpenShut
import Derived.Below
import Derived.Deep.DeepHandedRow
import Derived.Lib.LaidTab
namespace Go.Proofs.YteadkjbdbljbfaaDoor.limbIsRing
open Go.ChangeShapes Go.WideShapes Go.ChangeAt Go.RowKit Wd
set_option linter.unusedVariables false
set_option linter.unusedSimpArgs false

theorem own : ownKnob Tryd.prog.godebug = none := by kernel_rfl
theorem laidOut : laidOutB Tryd.prog = true := by kernel_rfl

set_option maxHeartbeats 8000000 in
theorem walk {w : World} (a0 : Int) (w0 : (Lit.int .i64 a0).wf = true) (a1 : Int) (w1 : (Lit.int .i64 a1).wf = true) (a2 : Int) (w2 : (Lit.int .i64 a2).wf = true) (hT : TabM w) :
    Calls Tryd.prog 6 #[.int .i64 a0, .int .i64 a1, .int .i64 a2] w fun e w' => e = .returned (.bool true) ∧ Below w.heap.size w w' := by
  have HT := Lib.hid hT; have HB0 := Lib.hid (Below.refl w.heap.size w)
  have i0 := isI_of_wf w0; have i1 := isI_of_wf w1; have i2 := isI_of_wf w2
  clear hT 
  have g0 := Lib.hid (fit_I i0 (show 1 ≤ 2 by omega)); have g1 := Lib.hid (fit_I i1 (show 1 ≤ 2 by omega)); have g2 := Lib.hid (fit_I i2 (show 1 ≤ 2 by omega))
  have g01 := Lib.hid (fit_mul g0.out g1.out); have g12 := Lib.hid (fit_mul g1.out g2.out); have g02 := Lib.hid (fit_mul g0.out g2.out)
  have gs := Lib.hid (fit_two i0 i1); have gl := Lib.hid (fit_mul gs.out g2.out)
  have er := Lib.hid (show (a0 + a1) * a2 = a0 * a2 + a1 * a2 from Int.add_mul _ _ _)
  have gr := Lib.hid (show Fit 4 (a0 * a2 + a1 * a2) by rw [← er.out]; exact gl.out)
  go_enter Tryd.func6, Tryd.ntmps6
  go_wp2_with fail
  refine (limb_From a0 _ 2 rfl i0 rfl _).mono ?_
  rintro e w1 ⟨V1, k1, rfl, SV, B⟩
  have HB1 := Lib.hid (HB0.out.trans (B.mono HB0.out.size))
  have FT_1 := Lib.hid (HT.out.below B (Nat.le_refl _))
  have Fa_1 := Lib.hid SV
  clear B SV HB0 HT
  go_wp2_with fail
  refine (limb_From a1 _ 2 rfl i1 rfl _).mono ?_
  rintro e w2 ⟨V2, k2, rfl, SV, B⟩
  have HB2 := Lib.hid (HB1.out.trans (B.mono HB1.out.size))
  have FT_2 := Lib.hid (FT_1.out.below B (Nat.le_refl _))
  have Fa_2 := Lib.hid (Fa_1.out.below B (Nat.le_refl _))
  have Fb_2 := Lib.hid SV
  clear B SV HB1 FT_1 Fa_1
  go_wp2_with fail
  refine (limb_From a2 _ 2 rfl i2 rfl _).mono ?_
  rintro e w3 ⟨V3, k3, rfl, SV, B⟩
  have HB3 := Lib.hid (HB2.out.trans (B.mono HB2.out.size))
  have FT_3 := Lib.hid (FT_2.out.below B (Nat.le_refl _))
  have Fa_3 := Lib.hid (Fa_2.out.below B (Nat.le_refl _))
  have Fb_3 := Lib.hid (Fb_2.out.below B (Nat.le_refl _))
  have Fc_3 := Lib.hid SV
  clear B SV HB2 FT_2 Fa_2 Fb_2
  go_wp2_with fail
  refine (limb_Mul _ _ _ _ _ _ _ _ _ Fa_3.out Fb_3.out g0.out g1.out rfl rfl (by omega)).mono ?_
  rintro e w4 ⟨V4, k4, rfl, SV, B⟩
  have HB4 := Lib.hid (HB3.out.trans (B.mono HB3.out.size))
  have FT_4 := Lib.hid (FT_3.out.below B (Nat.le_refl _))
  have Fa_4 := Lib.hid (Fa_3.out.below B (Nat.le_refl _))
  have Fb_4 := Lib.hid (Fb_3.out.below B (Nat.le_refl _))
  have Fc_4 := Lib.hid (Fc_3.out.below B (Nat.le_refl _))
  have Fab_4 := Lib.hid SV
  clear B SV HB3 FT_3 Fa_3 Fb_3 Fc_3
  go_wp2_with fail
  refine (limb_Mul _ _ _ _ _ _ _ _ _ Fb_4.out Fc_4.out g1.out g2.out rfl rfl (by omega)).mono ?_
  rintro e w5 ⟨V5, k5, rfl, SV, B⟩
  have HB5 := Lib.hid (HB4.out.trans (B.mono HB4.out.size))
  have FT_5 := Lib.hid (FT_4.out.below B (Nat.le_refl _))
  have Fa_5 := Lib.hid (Fa_4.out.below B (Nat.le_refl _))
  have Fb_5 := Lib.hid (Fb_4.out.below B (Nat.le_refl _))
  have Fc_5 := Lib.hid (Fc_4.out.below B (Nat.le_refl _))
  have Fab_5 := Lib.hid (Fab_4.out.below B (Nat.le_refl _))
  have Fbc_5 := Lib.hid SV
  clear B SV HB4 FT_4 Fa_4 Fb_4 Fc_4 Fab_4
  go_wp2_with fail
  refine (limb_Mul _ _ _ _ _ _ _ _ _ Fa_5.out Fc_5.out g0.out g2.out rfl rfl (by omega)).mono ?_
  rintro e w6 ⟨V6, k6, rfl, SV, B⟩
  have HB6 := Lib.hid (HB5.out.trans (B.mono HB5.out.size))
  have FT_6 := Lib.hid (FT_5.out.below B (Nat.le_refl _))
  have Fa_6 := Lib.hid (Fa_5.out.below B (Nat.le_refl _))
  have Fb_6 := Lib.hid (Fb_5.out.below B (Nat.le_refl _))
  have Fc_6 := Lib.hid (Fc_5.out.below B (Nat.le_refl _))
  have Fab_6 := Lib.hid (Fab_5.out.below B (Nat.le_refl _))
  have Fbc_6 := Lib.hid (Fbc_5.out.below B (Nat.le_refl _))
  have Fac_6 := Lib.hid SV
  clear B SV HB5 FT_5 Fa_5 Fb_5 Fc_5 Fab_5 Fbc_5
  go_wp2_with fail
  refine (limb_Mul _ _ _ _ _ _ _ _ _ Fb_6.out Fa_6.out g1.out g0.out rfl rfl (by omega)).mono ?_
  rintro e w7 ⟨V7, k7, rfl, SV, B⟩
  have HB7 := Lib.hid (HB6.out.trans (B.mono HB6.out.size))
  have FT_7 := Lib.hid (FT_6.out.below B (Nat.le_refl _))
  have Fa_7 := Lib.hid (Fa_6.out.below B (Nat.le_refl _))
  have Fb_7 := Lib.hid (Fb_6.out.below B (Nat.le_refl _))
  have Fc_7 := Lib.hid (Fc_6.out.below B (Nat.le_refl _))
  have Fab_7 := Lib.hid (Fab_6.out.below B (Nat.le_refl _))
  have Fbc_7 := Lib.hid (Fbc_6.out.below B (Nat.le_refl _))
  have Fac_7 := Lib.hid (Fac_6.out.below B (Nat.le_refl _))
  have Fba_7 := Lib.hid SV
  clear B SV HB6 FT_6 Fa_6 Fb_6 Fc_6 Fab_6 Fbc_6 Fac_6
  go_wp2_with fail
  refine (ref3_Same _ _ _ _ _ _ _ _ Fab_7.out Fba_7.out (fun i _ => by rw [Int.mul_comm])).mono ?_
  rintro e w8 ⟨rfl, B⟩
  have HB8 := Lib.hid (HB7.out.trans (B.mono HB7.out.size))
  have FT_8 := Lib.hid (FT_7.out.below B (Nat.le_refl _))
  have Fa_8 := Lib.hid (Fa_7.out.below B (Nat.le_refl _))
  have Fb_8 := Lib.hid (Fb_7.out.below B (Nat.le_refl _))
  have Fc_8 := Lib.hid (Fc_7.out.below B (Nat.le_refl _))
  have Fab_8 := Lib.hid (Fab_7.out.below B (Nat.le_refl _))
  have Fbc_8 := Lib.hid (Fbc_7.out.below B (Nat.le_refl _))
  have Fac_8 := Lib.hid (Fac_7.out.below B (Nat.le_refl _))
  have Fba_8 := Lib.hid (Fba_7.out.below B (Nat.le_refl _))
  clear B  HB7 FT_7 Fa_7 Fb_7 Fc_7 Fab_7 Fbc_7 Fac_7 Fba_7
  go_wp2_with fail
  refine (ring_closure _ _ _ _ _ Fa_8.out g0.out rfl).mono ?_
  rintro e w9 ⟨V8, k8, rfl, SV, B⟩
  have HB9 := Lib.hid (HB8.out.trans (B.mono HB8.out.size))
  have FT_9 := Lib.hid (FT_8.out.below B (Nat.le_refl _))
  have Fa_9 := Lib.hid (Fa_8.out.below B (Nat.le_refl _))
  have Fb_9 := Lib.hid (Fb_8.out.below B (Nat.le_refl _))
  have Fc_9 := Lib.hid (Fc_8.out.below B (Nat.le_refl _))
  have Fab_9 := Lib.hid (Fab_8.out.below B (Nat.le_refl _))
  have Fbc_9 := Lib.hid (Fbc_8.out.below B (Nat.le_refl _))
  have Fac_9 := Lib.hid (Fac_8.out.below B (Nat.le_refl _))
  have Fp_9 := Lib.hid SV
  clear B SV HB8 FT_8 Fa_8 Fb_8 Fc_8 Fab_8 Fbc_8 Fac_8
  go_wp2_with fail
  refine (ring_closure _ _ _ _ _ Fb_9.out g1.out rfl).mono ?_
  rintro e w10 ⟨V9, k9, rfl, SV, B⟩
  have HB10 := Lib.hid (HB9.out.trans (B.mono HB9.out.size))
  have FT_10 := Lib.hid (FT_9.out.below B (Nat.le_refl _))
  have Fa_10 := Lib.hid (Fa_9.out.below B (Nat.le_refl _))
  have Fb_10 := Lib.hid (Fb_9.out.below B (Nat.le_refl _))
  have Fc_10 := Lib.hid (Fc_9.out.below B (Nat.le_refl _))
  have Fab_10 := Lib.hid (Fab_9.out.below B (Nat.le_refl _))
  have Fbc_10 := Lib.hid (Fbc_9.out.below B (Nat.le_refl _))
  have Fac_10 := Lib.hid (Fac_9.out.below B (Nat.le_refl _))
  have Fp_10 := Lib.hid (Fp_9.out.below B (Nat.le_refl _))
  have Fq_10 := Lib.hid SV
  clear B SV HB9 FT_9 Fa_9 Fb_9 Fc_9 Fab_9 Fbc_9 Fac_9 Fp_9
  go_wp2_with fail
  refine (limb_Add _ _ _ _ _ _ _ _ Fp_10.out Fq_10.out rfl).mono ?_
  rintro e w11 ⟨V10, k10, rfl, SV, B⟩
  have HB11 := Lib.hid (HB10.out.trans (B.mono HB10.out.size))
  have FT_11 := Lib.hid (FT_10.out.below B (Nat.le_refl _))
  have Fa_11 := Lib.hid (Fa_10.out.below B (Nat.le_refl _))
  have Fb_11 := Lib.hid (Fb_10.out.below B (Nat.le_refl _))
  have Fc_11 := Lib.hid (Fc_10.out.below B (Nat.le_refl _))
  have Fab_11 := Lib.hid (Fab_10.out.below B (Nat.le_refl _))
  have Fbc_11 := Lib.hid (Fbc_10.out.below B (Nat.le_refl _))
  have Fac_11 := Lib.hid (Fac_10.out.below B (Nat.le_refl _))
  have Fp_11 := Lib.hid (Fp_10.out.below B (Nat.le_refl _))
  have Fq_11 := Lib.hid (Fq_10.out.below B (Nat.le_refl _))
  have Fpq_11 := Lib.hid SV
  clear B SV HB10 FT_10 Fa_10 Fb_10 Fc_10 Fab_10 Fbc_10 Fac_10 Fp_10 Fq_10
  go_wp2_with fail
  refine (ring_closure _ _ _ _ _ Fb_11.out g1.out rfl).mono ?_
  rintro e w12 ⟨V11, k11, rfl, SV, B⟩
  have HB12 := Lib.hid (HB11.out.trans (B.mono HB11.out.size))
  have FT_12 := Lib.hid (FT_11.out.below B (Nat.le_refl _))
  have Fa_12 := Lib.hid (Fa_11.out.below B (Nat.le_refl _))
  have Fb_12 := Lib.hid (Fb_11.out.below B (Nat.le_refl _))
  have Fc_12 := Lib.hid (Fc_11.out.below B (Nat.le_refl _))
  have Fab_12 := Lib.hid (Fab_11.out.below B (Nat.le_refl _))
  have Fbc_12 := Lib.hid (Fbc_11.out.below B (Nat.le_refl _))
  have Fac_12 := Lib.hid (Fac_11.out.below B (Nat.le_refl _))
  have Fpq_12 := Lib.hid (Fpq_11.out.below B (Nat.le_refl _))
  have Fq_12 := Lib.hid SV
  clear B SV HB11 FT_11 Fa_11 Fb_11 Fc_11 Fab_11 Fbc_11 Fac_11 Fpq_11
  go_wp2_with fail
  refine (ring_closure _ _ _ _ _ Fa_12.out g0.out rfl).mono ?_
  rintro e w13 ⟨V12, k12, rfl, SV, B⟩
  have HB13 := Lib.hid (HB12.out.trans (B.mono HB12.out.size))
  have FT_13 := Lib.hid (FT_12.out.below B (Nat.le_refl _))
  have Fa_13 := Lib.hid (Fa_12.out.below B (Nat.le_refl _))
  have Fb_13 := Lib.hid (Fb_12.out.below B (Nat.le_refl _))
  have Fc_13 := Lib.hid (Fc_12.out.below B (Nat.le_refl _))
  have Fab_13 := Lib.hid (Fab_12.out.below B (Nat.le_refl _))
  have Fbc_13 := Lib.hid (Fbc_12.out.below B (Nat.le_refl _))
  have Fac_13 := Lib.hid (Fac_12.out.below B (Nat.le_refl _))
  have Fpq_13 := Lib.hid (Fpq_12.out.below B (Nat.le_refl _))
  have Fq_13 := Lib.hid (Fq_12.out.below B (Nat.le_refl _))
  have Fp_13 := Lib.hid SV
  clear B SV HB12 FT_12 Fa_12 Fb_12 Fc_12 Fab_12 Fbc_12 Fac_12 Fpq_12 Fq_12
  go_wp2_with fail
  refine (limb_Add _ _ _ _ _ _ _ _ Fq_13.out Fp_13.out rfl).mono ?_
  rintro e w14 ⟨V13, k13, rfl, SV, B⟩
  have HB14 := Lib.hid (HB13.out.trans (B.mono HB13.out.size))
  have FT_14 := Lib.hid (FT_13.out.below B (Nat.le_refl _))
  have Fa_14 := Lib.hid (Fa_13.out.below B (Nat.le_refl _))
  have Fb_14 := Lib.hid (Fb_13.out.below B (Nat.le_refl _))
  have Fc_14 := Lib.hid (Fc_13.out.below B (Nat.le_refl _))
  have Fab_14 := Lib.hid (Fab_13.out.below B (Nat.le_refl _))
  have Fbc_14 := Lib.hid (Fbc_13.out.below B (Nat.le_refl _))
  have Fac_14 := Lib.hid (Fac_13.out.below B (Nat.le_refl _))
  have Fpq_14 := Lib.hid (Fpq_13.out.below B (Nat.le_refl _))
  have Fq_14 := Lib.hid (Fq_13.out.below B (Nat.le_refl _))
  have Fp_14 := Lib.hid (Fp_13.out.below B (Nat.le_refl _))
  have Fqp_14 := Lib.hid SV
  clear B SV HB13 FT_13 Fa_13 Fb_13 Fc_13 Fab_13 Fbc_13 Fac_13 Fpq_13 Fq_13 Fp_13
  go_wp2_with fail
  refine (ref3_Same _ _ _ _ _ _ _ _ Fpq_14.out Fqp_14.out (fun i _ => by rw [Int.add_comm])).mono ?_
  rintro e w15 ⟨rfl, B⟩
  have HB15 := Lib.hid (HB14.out.trans (B.mono HB14.out.size))
  have FT_15 := Lib.hid (FT_14.out.below B (Nat.le_refl _))
  have Fa_15 := Lib.hid (Fa_14.out.below B (Nat.le_refl _))
  have Fb_15 := Lib.hid (Fb_14.out.below B (Nat.le_refl _))
  have Fc_15 := Lib.hid (Fc_14.out.below B (Nat.le_refl _))
  have Fab_15 := Lib.hid (Fab_14.out.below B (Nat.le_refl _))
  have Fbc_15 := Lib.hid (Fbc_14.out.below B (Nat.le_refl _))
  have Fac_15 := Lib.hid (Fac_14.out.below B (Nat.le_refl _))
  have Fpq_15 := Lib.hid (Fpq_14.out.below B (Nat.le_refl _))
  have Fqp_15 := Lib.hid (Fqp_14.out.below B (Nat.le_refl _))
  clear B  HB14 FT_14 Fa_14 Fb_14 Fc_14 Fab_14 Fbc_14 Fac_14 Fpq_14 Fqp_14
  go_wp2_with fail
  refine (limb_Add _ _ _ _ _ _ _ _ Fa_15.out Fb_15.out rfl).mono ?_
  rintro e w16 ⟨V14, k14, rfl, SV, B⟩
  have HB16 := Lib.hid (HB15.out.trans (B.mono HB15.out.size))
  have FT_16 := Lib.hid (FT_15.out.below B (Nat.le_refl _))
  have Fa_16 := Lib.hid (Fa_15.out.below B (Nat.le_refl _))
  have Fb_16 := Lib.hid (Fb_15.out.below B (Nat.le_refl _))
  have Fc_16 := Lib.hid (Fc_15.out.below B (Nat.le_refl _))
  have Fab_16 := Lib.hid (Fab_15.out.below B (Nat.le_refl _))
  have Fbc_16 := Lib.hid (Fbc_15.out.below B (Nat.le_refl _))
  have Fac_16 := Lib.hid (Fac_15.out.below B (Nat.le_refl _))
  have Fs_16 := Lib.hid SV
  clear B SV HB15 FT_15 Fa_15 Fb_15 Fc_15 Fab_15 Fbc_15 Fac_15
  go_wp2_with fail
  refine (limb_Mul _ _ _ _ _ _ _ _ _ Fs_16.out Fc_16.out gs.out g2.out rfl rfl (by omega)).mono ?_
  rintro e w17 ⟨V15, k15, rfl, SV, B⟩
  have HB17 := Lib.hid (HB16.out.trans (B.mono HB16.out.size))
  have FT_17 := Lib.hid (FT_16.out.below B (Nat.le_refl _))
  have Fa_17 := Lib.hid (Fa_16.out.below B (Nat.le_refl _))
  have Fb_17 := Lib.hid (Fb_16.out.below B (Nat.le_refl _))
  have Fc_17 := Lib.hid (Fc_16.out.below B (Nat.le_refl _))
  have Fab_17 := Lib.hid (Fab_16.out.below B (Nat.le_refl _))
  have Fbc_17 := Lib.hid (Fbc_16.out.below B (Nat.le_refl _))
  have Fac_17 := Lib.hid (Fac_16.out.below B (Nat.le_refl _))
  have Fs_17 := Lib.hid (Fs_16.out.below B (Nat.le_refl _))
  have Fl_17 := Lib.hid SV
  clear B SV HB16 FT_16 Fa_16 Fb_16 Fc_16 Fab_16 Fbc_16 Fac_16 Fs_16
  go_wp2_with fail
  refine (limb_Add _ _ _ _ _ _ _ _ Fac_17.out Fbc_17.out rfl).mono ?_
  rintro e w18 ⟨V16, k16, rfl, SV, B⟩
  have HB18 := Lib.hid (HB17.out.trans (B.mono HB17.out.size))
  have FT_18 := Lib.hid (FT_17.out.below B (Nat.le_refl _))
  have Fa_18 := Lib.hid (Fa_17.out.below B (Nat.le_refl _))
  have Fb_18 := Lib.hid (Fb_17.out.below B (Nat.le_refl _))
  have Fc_18 := Lib.hid (Fc_17.out.below B (Nat.le_refl _))
  have Fab_18 := Lib.hid (Fab_17.out.below B (Nat.le_refl _))
  have Fbc_18 := Lib.hid (Fbc_17.out.below B (Nat.le_refl _))
  have Fac_18 := Lib.hid (Fac_17.out.below B (Nat.le_refl _))
  have Fl_18 := Lib.hid (Fl_17.out.below B (Nat.le_refl _))
  have Fr_18 := Lib.hid SV
  clear B SV HB17 FT_17 Fa_17 Fb_17 Fc_17 Fab_17 Fbc_17 Fac_17 Fl_17
  go_wp2_with fail
  refine (alive3 _ FT_18.out).mono ?_
  rintro e w19 ⟨rfl, B⟩
  have HB19 := Lib.hid (HB18.out.trans (B.mono HB18.out.size))
  have FT_19 := Lib.hid (FT_18.out.below B (Nat.le_refl _))
  have Fa_19 := Lib.hid (Fa_18.out.below B (Nat.le_refl _))
  have Fb_19 := Lib.hid (Fb_18.out.below B (Nat.le_refl _))
  have Fc_19 := Lib.hid (Fc_18.out.below B (Nat.le_refl _))
  have Fab_19 := Lib.hid (Fab_18.out.below B (Nat.le_refl _))
  have Fbc_19 := Lib.hid (Fbc_18.out.below B (Nat.le_refl _))
  have Fac_19 := Lib.hid (Fac_18.out.below B (Nat.le_refl _))
  have Fl_19 := Lib.hid (Fl_18.out.below B (Nat.le_refl _))
  have Fr_19 := Lib.hid (Fr_18.out.below B (Nat.le_refl _))
  clear B  HB18 FT_18 Fa_18 Fb_18 Fc_18 Fab_18 Fbc_18 Fac_18 Fl_18 Fr_18
  go_wp2_with fail
  refine (ring_closure _ _ _ _ _ Fl_19.out gl.out rfl).mono ?_
  rintro e w20 ⟨V17, k17, rfl, SV, B⟩
  have HB20 := Lib.hid (HB19.out.trans (B.mono HB19.out.size))
  have Fa_20 := Lib.hid (Fa_19.out.below B (Nat.le_refl _))
  have Fb_20 := Lib.hid (Fb_19.out.below B (Nat.le_refl _))
  have Fc_20 := Lib.hid (Fc_19.out.below B (Nat.le_refl _))
  have Fab_20 := Lib.hid (Fab_19.out.below B (Nat.le_refl _))
  have Fbc_20 := Lib.hid (Fbc_19.out.below B (Nat.le_refl _))
  have Fac_20 := Lib.hid (Fac_19.out.below B (Nat.le_refl _))
  have Fl_20 := Lib.hid (Fl_19.out.below B (Nat.le_refl _))
  have Fr_20 := Lib.hid (Fr_19.out.below B (Nat.le_refl _))
  have Fp_20 := Lib.hid SV
  clear B SV HB19 Fa_19 Fb_19 Fc_19 Fab_19 Fbc_19 Fac_19 Fl_19 Fr_19
  go_wp2_with fail
  refine (ring_closure _ _ _ _ _ Fr_20.out gr.out rfl).mono ?_
  rintro e w21 ⟨V18, k18, rfl, SV, B⟩
  have HB21 := Lib.hid (HB20.out.trans (B.mono HB20.out.size))
  have Fa_21 := Lib.hid (Fa_20.out.below B (Nat.le_refl _))
  have Fb_21 := Lib.hid (Fb_20.out.below B (Nat.le_refl _))
  have Fc_21 := Lib.hid (Fc_20.out.below B (Nat.le_refl _))
  have Fab_21 := Lib.hid (Fab_20.out.below B (Nat.le_refl _))
  have Fbc_21 := Lib.hid (Fbc_20.out.below B (Nat.le_refl _))
  have Fac_21 := Lib.hid (Fac_20.out.below B (Nat.le_refl _))
  have Fr_21 := Lib.hid (Fr_20.out.below B (Nat.le_refl _))
  have Fp_21 := Lib.hid (Fp_20.out.below B (Nat.le_refl _))
  have Fq_21 := Lib.hid SV
  clear B SV HB20 Fa_20 Fb_20 Fc_20 Fab_20 Fbc_20 Fac_20 Fr_20 Fp_20
  go_wp2_with fail
  refine (ref3_Same _ _ _ _ _ _ _ _ Fp_21.out Fq_21.out (fun i _ => by rw [er.out])).mono ?_
  rintro e w22 ⟨rfl, B⟩
  have HB22 := Lib.hid (HB21.out.trans (B.mono HB21.out.size))
  have Fa_22 := Lib.hid (Fa_21.out.below B (Nat.le_refl _))
  have Fb_22 := Lib.hid (Fb_21.out.below B (Nat.le_refl _))
  have Fc_22 := Lib.hid (Fc_21.out.below B (Nat.le_refl _))
  have Fab_22 := Lib.hid (Fab_21.out.below B (Nat.le_refl _))
  have Fbc_22 := Lib.hid (Fbc_21.out.below B (Nat.le_refl _))
  have Fac_22 := Lib.hid (Fac_21.out.below B (Nat.le_refl _))
  have Fp_22 := Lib.hid (Fp_21.out.below B (Nat.le_refl _))
  have Fq_22 := Lib.hid (Fq_21.out.below B (Nat.le_refl _))
  clear B  HB21 Fa_21 Fb_21 Fc_21 Fab_21 Fbc_21 Fac_21 Fp_21 Fq_21
  go_wp2_with fail
  refine (limb_Mul _ _ _ _ _ _ _ _ _ Fab_22.out Fc_22.out g01.out g2.out rfl rfl (by omega)).mono ?_
  rintro e w23 ⟨V19, k19, rfl, SV, B⟩
  have HB23 := Lib.hid (HB22.out.trans (B.mono HB22.out.size))
  have Fa_23 := Lib.hid (Fa_22.out.below B (Nat.le_refl _))
  have Fb_23 := Lib.hid (Fb_22.out.below B (Nat.le_refl _))
  have Fc_23 := Lib.hid (Fc_22.out.below B (Nat.le_refl _))
  have Fab_23 := Lib.hid (Fab_22.out.below B (Nat.le_refl _))
  have Fbc_23 := Lib.hid (Fbc_22.out.below B (Nat.le_refl _))
  have Fac_23 := Lib.hid (Fac_22.out.below B (Nat.le_refl _))
  have Fp_23 := Lib.hid SV
  clear B SV HB22 Fa_22 Fb_22 Fc_22 Fab_22 Fbc_22 Fac_22
  go_wp2_with fail
  refine (limb_Mul _ _ _ _ _ _ _ _ _ Fa_23.out Fbc_23.out g0.out g12.out rfl rfl (by omega)).mono ?_
  rintro e w24 ⟨V20, k20, rfl, SV, B⟩
  have HB24 := Lib.hid (HB23.out.trans (B.mono HB23.out.size))
  have Fa_24 := Lib.hid (Fa_23.out.below B (Nat.le_refl _))
  have Fb_24 := Lib.hid (Fb_23.out.below B (Nat.le_refl _))
  have Fc_24 := Lib.hid (Fc_23.out.below B (Nat.le_refl _))
  have Fab_24 := Lib.hid (Fab_23.out.below B (Nat.le_refl _))
  have Fbc_24 := Lib.hid (Fbc_23.out.below B (Nat.le_refl _))
  have Fac_24 := Lib.hid (Fac_23.out.below B (Nat.le_refl _))
  have Fp_24 := Lib.hid (Fp_23.out.below B (Nat.le_refl _))
  have Fq_24 := Lib.hid SV
  clear B SV HB23 Fa_23 Fb_23 Fc_23 Fab_23 Fbc_23 Fac_23 Fp_23
  go_wp2_with fail
  refine (ref3_Same _ _ _ _ _ _ _ _ Fp_24.out Fq_24.out (fun i _ => by rw [Int.mul_assoc])).mono ?_
  rintro e w25 ⟨rfl, B⟩
  have HB25 := Lib.hid (HB24.out.trans (B.mono HB24.out.size))
  have Fa_25 := Lib.hid (Fa_24.out.below B (Nat.le_refl _))
  have Fb_25 := Lib.hid (Fb_24.out.below B (Nat.le_refl _))
  have Fc_25 := Lib.hid (Fc_24.out.below B (Nat.le_refl _))
  have Fab_25 := Lib.hid (Fab_24.out.below B (Nat.le_refl _))
  have Fbc_25 := Lib.hid (Fbc_24.out.below B (Nat.le_refl _))
  have Fac_25 := Lib.hid (Fac_24.out.below B (Nat.le_refl _))
  have Fp_25 := Lib.hid (Fp_24.out.below B (Nat.le_refl _))
  have Fq_25 := Lib.hid (Fq_24.out.below B (Nat.le_refl _))
  clear B  HB24 Fa_24 Fb_24 Fc_24 Fab_24 Fbc_24 Fac_24 Fp_24 Fq_24
  go_wp2_with fail
  refine (limb_Add _ _ _ _ _ _ _ _ Fab_25.out Fbc_25.out rfl).mono ?_
  rintro e w26 ⟨V21, k21, rfl, SV, B⟩
  have HB26 := Lib.hid (HB25.out.trans (B.mono HB25.out.size))
  have Fab_26 := Lib.hid (Fab_25.out.below B (Nat.le_refl _))
  have Fbc_26 := Lib.hid (Fbc_25.out.below B (Nat.le_refl _))
  have Fac_26 := Lib.hid (Fac_25.out.below B (Nat.le_refl _))
  have Fp_26 := Lib.hid SV
  clear B SV HB25 Fab_25 Fbc_25 Fac_25
  go_wp2_with fail
  refine (limb_Add _ _ _ _ _ _ _ _ Fp_26.out Fac_26.out rfl).mono ?_
  rintro e w27 ⟨V22, k22, rfl, SV, B⟩
  have HB27 := Lib.hid (HB26.out.trans (B.mono HB26.out.size))
  have Fab_27 := Lib.hid (Fab_26.out.below B (Nat.le_refl _))
  have Fbc_27 := Lib.hid (Fbc_26.out.below B (Nat.le_refl _))
  have Fac_27 := Lib.hid (Fac_26.out.below B (Nat.le_refl _))
  have Fp_27 := Lib.hid (Fp_26.out.below B (Nat.le_refl _))
  have Fq_27 := Lib.hid SV
  clear B SV HB26 Fab_26 Fbc_26 Fac_26 Fp_26
  go_wp2_with fail
  refine (limb_Add _ _ _ _ _ _ _ _ Fbc_27.out Fac_27.out rfl).mono ?_
  rintro e w28 ⟨V23, k23, rfl, SV, B⟩
  have HB28 := Lib.hid (HB27.out.trans (B.mono HB27.out.size))
  have Fab_28 := Lib.hid (Fab_27.out.below B (Nat.le_refl _))
  have Fbc_28 := Lib.hid (Fbc_27.out.below B (Nat.le_refl _))
  have Fac_28 := Lib.hid (Fac_27.out.below B (Nat.le_refl _))
  have Fq_28 := Lib.hid (Fq_27.out.below B (Nat.le_refl _))
  have Fp_28 := Lib.hid SV
  clear B SV HB27 Fab_27 Fbc_27 Fac_27 Fq_27
  go_wp2_with fail
  refine (limb_Add _ _ _ _ _ _ _ _ Fab_28.out Fp_28.out rfl).mono ?_
  rintro e w29 ⟨V24, k24, rfl, SV, B⟩
  have HB29 := Lib.hid (HB28.out.trans (B.mono HB28.out.size))
  have Fab_29 := Lib.hid (Fab_28.out.below B (Nat.le_refl _))
  have Fbc_29 := Lib.hid (Fbc_28.out.below B (Nat.le_refl _))
  have Fac_29 := Lib.hid (Fac_28.out.below B (Nat.le_refl _))
  have Fq_29 := Lib.hid (Fq_28.out.below B (Nat.le_refl _))
  have Fp_29 := Lib.hid (Fp_28.out.below B (Nat.le_refl _))
  have Fr_29 := Lib.hid SV
  clear B SV HB28 Fab_28 Fbc_28 Fac_28 Fq_28 Fp_28
  go_wp2_with fail
  refine (ref3_Same _ _ _ _ _ _ _ _ Fq_29.out Fr_29.out (fun i _ => by rw [Int.add_assoc])).mono ?_
  rintro e w30 ⟨rfl, B⟩
  have HB30 := Lib.hid (HB29.out.trans (B.mono HB29.out.size))
  have Fab_30 := Lib.hid (Fab_29.out.below B (Nat.le_refl _))
  have Fbc_30 := Lib.hid (Fbc_29.out.below B (Nat.le_refl _))
  have Fac_30 := Lib.hid (Fac_29.out.below B (Nat.le_refl _))
  have Fq_30 := Lib.hid (Fq_29.out.below B (Nat.le_refl _))
  have Fr_30 := Lib.hid (Fr_29.out.below B (Nat.le_refl _))
  clear B  HB29 Fab_29 Fbc_29 Fac_29 Fq_29 Fr_29
  go_wp2_with fail
  go_ret
  exact ⟨rfl, HB30.out⟩

theorem gTab0 : Tryd.prog.globalNamed "geofence/mask.words" = some 0 := by kernel_rfl
theorem gTabType : (Tryd.prog.globals[0]?).map (·.type) = some 69 := by kernel_rfl
theorem cellsT : Tryd.prog.cellsOf 69 = 2 := by kernel_rfl
theorem cellsE : Tryd.prog.cellsOf 38 = 1 := by kernel_rfl
theorem tableIs {W : World} (h : laidMetH Tryd.prog Rows.limbIsRingRow.laid W) : Lib.TabIs Tryd.prog W "geofence/mask.words" .u64 [9223372036854775808, 18446744073709551615] :=
  Lib.tabIs_of_head (rest := _) gTab0 gTabType Tryd.underlying69 Tryd.underlying38 cellsE cellsT h
theorem table {W : World} (h : laidMetH Tryd.prog Rows.limbIsRingRow.laid W) : TabM W := ⟨(tableIs h).cell gTab0 0 (by decide), (tableIs h).cell gTab0 1 (by decide)⟩

theorem contract (H : Type) (enc : TypeId × Value → H) (W : World) (base : Nat) (args : Array Value) (ds gs : List (DataW H)) (before : List MemPlace)
    (hval : ∀ (j : Nat) t v, Tryd.f6.params[j]? = some t → args[j]? = some v → Value.okWide Tryd.prog W .any base t v)
    (hW : DataW.Whole enc Tryd.prog Tryd.f6.params.toList Rows.limbIsRingSpec.vars false W args.toList ds gs before) (hL : laidMetH Tryd.prog Rows.limbIsRingRow.laid W) :
    Calls Tryd.prog 6 args W fun e W' => ∃ v, e = .returned v ∧ Rows.limbIsRingSpec.post enc Tryd.prog Tryd.f6 false true false false W args v W' := by
  have hW' := hW
  obtain ⟨p, q, hA0, hV, rfl, hfz, hnd⟩ := hW
  have hA : DataW.TrodAll enc Tryd.prog W 0 (fun _ => true) true Tryd.f6.params.toList args.toList ds p := hA0
  rw [Tryd.params6] at hA hval
  obtain ⟨v0, vs0, d0, ds0, p0, q0, hargs, rfl, rfl, h0, r0⟩ := trodAll_cons hA
  obtain ⟨v1, vs1, d1, ds1, p1, q1, rfl, rfl, rfl, h1, r1⟩ := trodAll_cons r0
  obtain ⟨v2, vs2, d2, ds2, p2, q2, rfl, rfl, rfl, h2, r2⟩ := trodAll_cons r1
  obtain ⟨rfl, rfl, rfl⟩ := trodAll_nil r2
  obtain rfl : args = #[v0, v1, v2] := by cases args; simp_all
  obtain ⟨rfl, rfl⟩ := trodVars_none hV
  have k0 := h0
  have lt0 : ∀ x ∈ p0, x.block < W.heap.size := by obtain ⟨m, hm⟩ := k0; exact DataW.trod_lt m _ _ _ hm
  have k1 := h1
  have lt1 : ∀ x ∈ p1, x.block < W.heap.size := by obtain ⟨m, hm⟩ := k1; exact DataW.trod_lt m _ _ _ hm
  have k2 := h2
  have lt2 : ∀ x ∈ p2, x.block < W.heap.size := by obtain ⟨m, hm⟩ := k2; exact DataW.trod_lt m _ _ _ hm
  obtain ⟨a0, rfl, rfl, rfl, w0⟩ := open_int Tryd.underlying2 (hval 0 2 v0 rfl rfl) h0
  obtain ⟨a1, rfl, rfl, rfl, w1⟩ := open_int Tryd.underlying2 (hval 1 2 v1 rfl rfl) h1
  obtain ⟨a2, rfl, rfl, rfl, w2⟩ := open_int Tryd.underlying2 (hval 2 2 v2 rfl rfl) h2
  clear hA0
  refine (walk a0 w0 a1 w1 a2 w2 (table hL)).mono fun e W' ⟨he, bel⟩ => ?_
  subst he
  exact ⟨_, rfl, _, _, _, [], _, [], hW', trodAll_mk1 (shut_bool Tryd.underlying4 _), (trodAll_cons_mk (Below.trod laidOut (by kernel_rfl) (of_decide_eq_true (by kernel_rfl)) k0 bel lt0) (trodAll_cons_mk (Below.trod laidOut (by kernel_rfl) (of_decide_eq_true (by kernel_rfl)) k1 bel lt1) (trodAll_cons_mk (Below.trod laidOut (by kernel_rfl) (of_decide_eq_true (by kernel_rfl)) k2 bel lt2) trodAll_mk0))), rfl, bel.frame _, fun h => by cases h⟩

noncomputable def laidWorld (os : Os) : World :=
  { World.holding Tryd.prog os ⟨#[], #[], []⟩ with heap := (World.holding Tryd.prog os ⟨#[], #[], []⟩).heap.modify 0 fun
      | .cells _ t frozen => .cells #[.int .u64 9223372036854775808, .int .u64 18446744073709551615] t frozen
      | o => o }
theorem laid_met (os : Os) : laidMet Tryd.prog Rows.limbIsRingRow.laid ((laidWorld os).forCall (fun _ _ => 0) ⟨#[], #[.int .i64 0, .int .i64 0, .int .i64 0], []⟩).memory :=
  laidMet_of_run' 8 (by kernel_rfl) (by kernel_rfl)
theorem reads (os : Os) {H : Type} (enc : TypeId × Value → H) : ∃ places, DataW.whole enc Tryd.prog ((laidWorld os).forCall (fun _ _ => 0) ⟨#[], #[.int .i64 0, .int .i64 0, .int .i64 0], []⟩).memory Tryd.f6.params.toList Rows.limbIsRingSpec.vars false (#[.int .i64 0, .int .i64 0, .int .i64 0] : Array Value).toList 8 = some ([.lit (.int .i64 0), .lit (.int .i64 0), .lit (.int .i64 0)], [], places) :=
  ⟨[], by kernel_rfl⟩

set_option maxRecDepth 100000 in
theorem lifted (os : Os) (started : os.Started) (H : Type) (enc : TypeId × Value → H) (F : Stop.Interp) :
    ReturnsInHanded {} Tryd.checked os 6 .any ((OpenSpec.ofChange Rows.limbIsRingSpec).preRow enc Tryd.prog Tryd.f6 Rows.limbIsRingRow.domain false Rows.limbIsRingRow.laid) (((OpenSpec.ofChange Rows.limbIsRingSpec).at F).post enc Tryd.prog Tryd.f6 false true false false) := by
  obtain ⟨places, hx⟩ := reads os enc
  refine returnsInHanded_of_row (C := Tryd.checked) (s := OpenSpec.ofChange Rows.limbIsRingSpec) own started (by kernel_rfl) Tryd.func6
    (witness_row_at (enc := enc) (C := Tryd.checked) false (laidWorld os) #[.int .i64 0, .int .i64 0, .int .i64 0] rfl (by kernel_rfl) (by kernel_rfl) (by kernel_rfl)
      (OpenSpec.preRow_of_cond 8 hx (by kernel_rfl) (fun k hk => by cases hk) (by kernel_rfl) (laid_met os))) ?_
  intro W base args ds gs before hval hW _ _ _ hL _ _
  exact contract H enc W base args ds gs before hval hW hL

theorem said : Rows.LimbIsRingSaid :=
  OpenClaim.holds_of_cond 6 Tryd.f6 rfl rfl rfl rfl rfl rfl rfl ⟨rfl, rfl, rfl, rfl, rfl⟩ rfl rfl rfl rfl rfl (by kernel_rfl) Tryd.func6 (by kernel_rfl)
    (of_decide_eq_true (by kernel_rfl)) (by unfold Func.isWrapper; first | (rw [if_pos (by decide +kernel)]; kernel_rfl) | (rw [if_neg (by decide +kernel)]; exact ⟨rfl, rfl⟩))
    (fun os started H enc _ F => by rw [OpenClaim.pre_eq_preRow]; exact lifted os started H enc F)

theorem plain (f : FuncId) (fn : Func) (hf : Tryd.pinned.checked.prog.funcNamed "geofence/geofencelaw03.LimbIsRing" = some f) (hfn : Tryd.pinned.checked.prog.funcs[f]? = some fn) :
    false = Tryd.pinned.checked.prog.looks [] ∧ ∀ (j : Nat) t, fn.params[j]? = some t → Tryd.pinned.checked.prog.wantsStandIn t = false := by
  obtain rfl : f = 6 := Option.some.inj ((show Tryd.prog.funcNamed "geofence/geofencelaw03.LimbIsRing" = some 6 by kernel_rfl).symm.trans hf) |>.symm
  obtain rfl : fn = Tryd.f6 := (Option.some.inj (Tryd.func6.symm.trans hfn)).symm
  refine ⟨by kernel_rfl, fun j t ht => ?_⟩
  rw [Tryd.params6] at ht
  have hm := Array.mem_of_getElem? ht
  simp at hm
  obtain rfl := hm
  exact (show Tryd.prog.wantsStandIn 2 = false by kernel_rfl)

/-- THE CARD -/
theorem card : Rows.LimbIsRingCardSaid :=
  Claim7.holds_tied_plain_at .later [] _ _ _ _ said (fun _ h => by cases h) (by kernel_rfl) (fun _ h => by cases h) limbIsRing_row_tie rfl ⟨rfl, rfl⟩ (by kernel_rfl) rfl plain (by kernel_rfl)
#print axioms card
end Go.Proofs.YteadkjbdbljbfaaDoor.limbIsRing
