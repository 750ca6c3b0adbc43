/- TopFence: for every input the law returns true, and each argument reads afterwards as it read before; the package variable that the row lists holds what it lists. -/
import Derived.Test.YtjdiilkljgljkaaGreatDoorCards
import Derived.Test.YtjdiilkljgljkaaGreatDoorTie
import Derived.Test.YtjdiilkljgljkaaGreatDoorMe
import Derived.Test.YtjdiilkljgljkaaGreatDoorMj
import Derived.Test.YtjdiilkljgljkaaGreatDoorMk
import Derived.Test.YtjdiilkljgljkaaGreatDoorMl
import Derived.Test.YtjdiilkljgljkaaGreatDoorMa
import Derived.Test.YtjdiilkljgljkaaGreatDoorMm
import Derived.WalkKit
import Derived.ProofKit
import Derived.OpenShut
import Derived.Below
import Derived.Deep.DeepHandedRow
import Derived.Lib.LaidTab
namespace Go.Proofs.YtjdiilkljgljkaaGreatDoor.topFence
open Go.ChangeShapes Go.WideShapes Go.ChangeAt Go.RowKit Wd
set_option linter.unusedVariables false
set_option linter.unusedSimpArgs false

theorem own : ownKnob Tryz.prog.godebug = none := by kernel_rfl
theorem laidOut : laidOutB Tryz.prog = true := by kernel_rfl

set_option maxRecDepth 100000 in
set_option maxHeartbeats 4000000 in
theorem walk {w : World} (A0 : Option Addr) (n0 c0 : Nat) (dd0 : Nat → Bool) (vv0 : Nat → Int) (Q0 : Nat → Option Addr × Nat × Nat) (F0 G0 : Nat → Nat → Int) (s0 : Rgs w A0 n0 c0 dd0 vv0 Q0) (rp0 : RgP w n0 Q0 F0 G0) (a1 b1 : Int) (w1 : (Lit.int .i64 a1).wf = true) (x1 : (Lit.int .i64 b1).wf = true) (hT : TabM w) (hF : TabF w) :
    Calls Tryz.prog 5 #[.slice A0 n0 c0, .agg #[.int .i64 a1, .int .i64 b1]] w fun e w' => e = .returned (.bool true) ∧ Below w.heap.size w w' := by
  have HB0 := Lib.hid (Below.refl w.heap.size w)
  have ia1 := isI_of_wf w1
  have ib1 := isI_of_wf x1
  have FT := Lib.hid hT; clear hT
  have FF := Lib.hid hF; clear hF
  have FR := Lib.hid s0; have FP := Lib.hid rp0; have HIX := Lib.hid ia1; have HIY := Lib.hid ib1; clear s0 rp0
  go_enter Tryz.func5, Tryz.ntmps5
  go_wp2_with fail
  have B : Below w.heap.size w (w.alloc (.cells #[.int .i64 a1, .int .i64 b1] 23)) := (HB0.out.alloc HB0.out.size _)
  have C : Below w.heap.size w (w.alloc (.cells #[.int .i64 a1, .int .i64 b1] 23)) := ((Below.refl w.heap.size w).alloc (Nat.le_refl _) _)
  have X0 : Bx (w.alloc (.cells #[.int .i64 a1, .int .i64 b1] 23)) (w.heap.size) #[.int .i64 a1, .int .i64 b1] 23 := by simpa using (Bx.new w #[.int .i64 a1, .int .i64 b1] 23)
  have FT_1 := Lib.hid (FT.out.below C (Nat.le_refl _))
  have FF_1 := Lib.hid (FF.out.below C (Nat.le_refl _))
  have FR_1 := Lib.hid (FR.out.below C (Nat.le_refl _))
  have FP_1 := Lib.hid (FP.out.below C (Nat.le_refl _))
  have HB1 := Lib.hid B
  have FX_1 := Lib.hid X0
  clear B C X0 HB0 FT FF FR FP
  generalize (w.alloc (.cells #[.int .i64 a1, .int .i64 b1] 23)) = w1 at *
  skip
  refine (law20_Skip A0 n0 c0 dd0 vv0 Q0 none 0 0 _ FR_1.out).mono ?_
  rintro e w2 ⟨⟨x, rfl, -⟩, B⟩
  have HB2 := Lib.hid (HB1.out.trans (B.mono HB1.out.size))
  have FT_2 := Lib.hid (FT_1.out.below B (Nat.le_refl _))
  have FF_2 := Lib.hid (FF_1.out.below B (Nat.le_refl _))
  have FR_2 := Lib.hid (FR_1.out.below B (Nat.le_refl _))
  have FP_2 := Lib.hid (FP_1.out.below B (Nat.le_refl _))
  have FX_2 := Lib.hid (FX_1.out.below B (Nat.le_refl _))
  clear B  HB1 FT_1 FF_1 FR_1 FP_1 FX_1
  by_cases hx : x > 0
  · skip
    go_wp2_with fail
    refine (top_serves _ FT_2.out FF_2.out).mono ?_
    rintro e w3 ⟨rfl, B⟩
    have HB3 := Lib.hid (HB2.out.trans (B.mono HB2.out.size))
    have FT_3 := Lib.hid (FT_2.out.below B (Nat.le_refl _))
    have FF_3 := Lib.hid (FF_2.out.below B (Nat.le_refl _))
    have FR_3 := Lib.hid (FR_2.out.below B (Nat.le_refl _))
    have FP_3 := Lib.hid (FP_2.out.below B (Nat.le_refl _))
    have FX_3 := Lib.hid (FX_2.out.below B (Nat.le_refl _))
    clear B  HB2 FT_2 FF_2 FR_2 FP_2 FX_2
    go_wp2_with fail
    go_ret
    exact ⟨rfl, HB3.out⟩
  go_wp2_with fail
  refine (ref16_Check A0 n0 c0 dd0 vv0 Q0 _ FR_2.out).mono ?_
  rintro e w3 ⟨⟨y, rfl, hy⟩, B⟩
  have HB3 := Lib.hid (HB2.out.trans (B.mono HB2.out.size))
  have FT_3 := Lib.hid (FT_2.out.below B (Nat.le_refl _))
  have FF_3 := Lib.hid (FF_2.out.below B (Nat.le_refl _))
  have FR_3 := Lib.hid (FR_2.out.below B (Nat.le_refl _))
  have FP_3 := Lib.hid (FP_2.out.below B (Nat.le_refl _))
  have FX_3 := Lib.hid (FX_2.out.below B (Nat.le_refl _))
  clear B  HB2 FT_2 FF_2 FR_2 FP_2 FX_2
  by_cases hy0 : y = 0
  rotate_left 1
  · have hy2 : (y != 0) = true := by simpa using hy0
    clear hy hy0
    go_wp2_with fail
    refine (top_serves _ FT_3.out FF_3.out).mono ?_
    rintro e w4 ⟨rfl, B⟩
    have HB4 := Lib.hid (HB3.out.trans (B.mono HB3.out.size))
    have FT_4 := Lib.hid (FT_3.out.below B (Nat.le_refl _))
    have FF_4 := Lib.hid (FF_3.out.below B (Nat.le_refl _))
    have FR_4 := Lib.hid (FR_3.out.below B (Nat.le_refl _))
    have FP_4 := Lib.hid (FP_3.out.below B (Nat.le_refl _))
    have FX_4 := Lib.hid (FX_3.out.below B (Nat.le_refl _))
    clear B  HB3 FT_3 FF_3 FR_3 FP_3 FX_3
    go_wp2_with fail
    go_ret
    exact ⟨rfl, HB4.out⟩
  have HO := Lib.hid (hy.1 hy0); subst hy0; clear hy
  go_wp2_with fail
  clear hx
  refine (rgclone A0 n0 c0 dd0 vv0 Q0 _ FR_3.out (by have := HO.out.pos; omega) (by have := HO.out.le; omega)).mono ?_
  rintro e wc ⟨⟨gm, cm, cur, rfl, hgm, hbx, h1m, h2m, -, htk⟩, Bc⟩
  have HBX := Lib.hid hbx; have HGM := Lib.hid hgm; have HTK := Lib.hid htk; have H1M := Lib.hid h1m; have H2M := Lib.hid h2m; have HBC := Lib.hid Bc; clear hbx hgm htk h1m h2m Bc
  go_wp2_with fail
  refine (rgreverse gm n0 cm dd0 vv0 Q0 cur _ HBX.out HTK.out (fun i hi => (FR_3.out).isi i hi) H1M.out H2M.out).mono ?_
  rintro e wd ⟨rfl, hm, Bd⟩
  have B := HBC.out.trans (Bd.mono HGM.out); clear Bd HBC HBX HTK H1M H2M HGM
  have HB4 := Lib.hid (HB3.out.trans (B.mono HB3.out.size))
  have FT_4 := Lib.hid (FT_3.out.below B (Nat.le_refl _))
  have FF_4 := Lib.hid (FF_3.out.below B (Nat.le_refl _))
  have FR_4 := Lib.hid (FR_3.out.below B (Nat.le_refl _))
  have FP_4 := Lib.hid (FP_3.out.below B (Nat.le_refl _))
  have FX_4 := Lib.hid (FX_3.out.below B (Nat.le_refl _))
  have FM_4 := Lib.hid hm
  clear B hm HB3 FT_3 FF_3 FR_3 FP_3 FX_3
  have HV := Lib.hid (fenA_range (allB (vR vv0 Q0 F0 G0) n0) (memR dd0 (lR vv0 Q0 F0 G0 a1 b1) n0))
  have HE := Lib.hid (show fenA (allB (vR vv0 Q0 F0 G0) n0) (memR dd0 (lR vv0 Q0 F0 G0 a1 b1) n0) = fenA (allB (vR vv0 Q0 F0 G0) n0) (memR dd0 (lR vv0 Q0 F0 G0 a1 b1) n0) from rfl)
  have HE2 := Lib.hid (show fenA (allB (vR (rv n0 vv0) (rv n0 Q0) (rv n0 F0) (rv n0 G0)) n0) (memR (rv n0 dd0) (lR (rv n0 vv0) (rv n0 Q0) (rv n0 F0) (rv n0 G0) a1 b1) n0) = fenA (allB (vR vv0 Q0 F0 G0) n0) (memR dd0 (lR vv0 Q0 F0 G0 a1 b1) n0) from fen_rv n0 dd0 vv0 Q0 F0 G0 a1 b1)
  have HE' : ∃ val, Hid (fenA (allB (vR vv0 Q0 F0 G0) n0) (memR dd0 (lR vv0 Q0 F0 G0 a1 b1) n0) = val) ∧ Hid (fenA (allB (vR (rv n0 vv0) (rv n0 Q0) (rv n0 F0) (rv n0 G0)) n0) (memR (rv n0 dd0) (lR (rv n0 vv0) (rv n0 Q0) (rv n0 F0) (rv n0 G0) a1 b1) n0) = val) ∧ Hid (val = 0 ∨ val = 1 ∨ val = 2) := ⟨_, HE, HE2, HV⟩
  clear HE HE2 HV
  obtain ⟨val, HE, HE2, HV⟩ := HE'
  have e1 : IntKind.u8.wrap val = val := by have := HV.out; rw [IntKind.wrap_u8]; omega
  have vX0 := FX_4.out.cell 0 (v := .int .i64 a1) rfl
  have vX1 := FX_4.out.cell 1 (v := .int .i64 b1) rfl
  go_wp2_with fail
  refine (ref19_Fence A0 n0 c0 dd0 vv0 Q0 F0 G0 a1 b1 HIX.out HIY.out _ FR_4.out FP_4.out HO.out).mono ?_
  rintro e w5 ⟨rfl, B⟩
  clear vX0 vX1
  have HB5 := Lib.hid (HB4.out.trans (B.mono HB4.out.size))
  have FT_5 := Lib.hid (FT_4.out.below B (Nat.le_refl _))
  have FF_5 := Lib.hid (FF_4.out.below B (Nat.le_refl _))
  have FR_5 := Lib.hid (FR_4.out.below B (Nat.le_refl _))
  have FP_5 := Lib.hid (FP_4.out.below B (Nat.le_refl _))
  have FX_5 := Lib.hid (FX_4.out.below B (Nat.le_refl _))
  have FM_5 := Lib.hid (FM_4.out.below B (Nat.le_refl _))
  clear B  HB4 FT_4 FF_4 FR_4 FP_4 FX_4 FM_4
  rw [HE.out]
  go_wp2_with fail
  have B : Below w.heap.size w (w5.alloc (.cells #[.int .u8 0, .int .u8 val] 5)) := (HB5.out.alloc HB5.out.size _)
  have C : Below w5.heap.size w5 (w5.alloc (.cells #[.int .u8 0, .int .u8 val] 5)) := ((Below.refl w5.heap.size w5).alloc (Nat.le_refl _) _)
  have X0 : Bx (w5.alloc (.cells #[.int .u8 0, .int .u8 val] 5)) (w5.heap.size) #[.int .u8 0, .int .u8 val] 5 := by simpa using (Bx.new w5 #[.int .u8 0, .int .u8 val] 5)
  have FT_6 := Lib.hid (FT_5.out.below C (Nat.le_refl _))
  have FF_6 := Lib.hid (FF_5.out.below C (Nat.le_refl _))
  have FR_6 := Lib.hid (FR_5.out.below C (Nat.le_refl _))
  have FP_6 := Lib.hid (FP_5.out.below C (Nat.le_refl _))
  have FX_6 := Lib.hid (FX_5.out.below C (Nat.le_refl _))
  have FM_6 := Lib.hid (FM_5.out.below C (Nat.le_refl _))
  have HB6 := Lib.hid B
  have FW_6 := Lib.hid X0
  clear B C X0 HB5 FT_5 FF_5 FR_5 FP_5 FX_5 FM_5
  generalize (w5.alloc (.cells #[.int .u8 0, .int .u8 val] 5)) = w6 at *
  skip
  refine (top_serves _ FT_6.out FF_6.out).mono ?_
  rintro e w7 ⟨rfl, B⟩
  have HB7 := Lib.hid (HB6.out.trans (B.mono HB6.out.size))
  have FT_7 := Lib.hid (FT_6.out.below B (Nat.le_refl _))
  have FF_7 := Lib.hid (FF_6.out.below B (Nat.le_refl _))
  have FR_7 := Lib.hid (FR_6.out.below B (Nat.le_refl _))
  have FP_7 := Lib.hid (FP_6.out.below B (Nat.le_refl _))
  have FX_7 := Lib.hid (FX_6.out.below B (Nat.le_refl _))
  have FM_7 := Lib.hid (FM_6.out.below B (Nat.le_refl _))
  have FW_7 := Lib.hid (FW_6.out.below B (Nat.le_refl _))
  clear B  HB6 FT_6 FF_6 FR_6 FP_6 FX_6 FM_6 FW_6
  have vX0 := FX_7.out.cell 0 (v := .int .i64 a1) rfl
  have vX1 := FX_7.out.cell 1 (v := .int .i64 b1) rfl
  go_wp2_with fail
  refine (top_member A0 n0 c0 dd0 vv0 Q0 F0 G0 a1 b1 HIX.out HIY.out HO.out _ FR_7.out FP_7.out).mono ?_
  rintro e w8 ⟨⟨q1, rfl, hn1, hy1⟩, B⟩
  clear vX0 vX1
  have HB8 := Lib.hid (HB7.out.trans (B.mono HB7.out.size))
  have FT_8 := Lib.hid (FT_7.out.below B (Nat.le_refl _))
  have FF_8 := Lib.hid (FF_7.out.below B (Nat.le_refl _))
  have FR_8 := Lib.hid (FR_7.out.below B (Nat.le_refl _))
  have FP_8 := Lib.hid (FP_7.out.below B (Nat.le_refl _))
  have FX_8 := Lib.hid (FX_7.out.below B (Nat.le_refl _))
  have FM_8 := Lib.hid (FM_7.out.below B (Nat.le_refl _))
  have FW_8 := Lib.hid (FW_7.out.below B (Nat.le_refl _))
  have FY1_8 := Lib.hid hy1
  clear B hy1 HB7 FT_7 FF_7 FR_7 FP_7 FX_7 FM_7 FW_7
  have HN1 := Lib.hid hn1; clear hn1
  go_wp2_with fail
  refine (serve_Serve4 n0 dd0 vv0 Q0 F0 G0 HO.out (fun i hi j hj => (FP_8.out.pts i hi).isi j hj) (fun _ => a1) (fun _ => b1) (fun _ _ => ⟨HIX.out, HIY.out⟩) _ _ _ _ FT_8.out FF_8.out HN1.out FY1_8.out).mono ?_
  rintro e w9 ⟨⟨A1, c1, rfl, hs1⟩, B⟩
  rw [HE.out] at hs1
  have HB9 := Lib.hid (HB8.out.trans (B.mono HB8.out.size))
  have FT_9 := Lib.hid (FT_8.out.below B (Nat.le_refl _))
  have FF_9 := Lib.hid (FF_8.out.below B (Nat.le_refl _))
  have FR_9 := Lib.hid (FR_8.out.below B (Nat.le_refl _))
  have FP_9 := Lib.hid (FP_8.out.below B (Nat.le_refl _))
  have FX_9 := Lib.hid (FX_8.out.below B (Nat.le_refl _))
  have FM_9 := Lib.hid (FM_8.out.below B (Nat.le_refl _))
  have FW_9 := Lib.hid (FW_8.out.below B (Nat.le_refl _))
  have FY1_9 := Lib.hid (FY1_8.out.below B (Nat.le_refl _))
  have FS1_9 := Lib.hid hs1
  clear B hs1 HB8 FT_8 FF_8 FR_8 FP_8 FX_8 FM_8 FW_8 FY1_8
  go_wp2_with fail
  refine (bytes_Equal_eq _ _ _ 2 [0, val] _ FS1_9.out (bx_by (l := [0, val]) FW_9.out (by show 2 ≤ maxLen; decide))).mono ?_
  rintro e w10 ⟨rfl, rfl⟩
  have vX0 := FX_9.out.cell 0 (v := .int .i64 a1) rfl
  have vX1 := FX_9.out.cell 1 (v := .int .i64 b1) rfl
  go_wp2_with fail
  refine (top_member _ n0 cm (rv n0 dd0) (rv n0 vv0) (rv n0 Q0) (rv n0 F0) (rv n0 G0) a1 b1 HIX.out HIY.out HO.out.rv _ FM_9.out FP_9.out.rv).mono ?_
  rintro e w11 ⟨⟨q2, rfl, hn2, hy2⟩, B⟩
  clear vX0 vX1
  have HB11 := Lib.hid (HB9.out.trans (B.mono HB9.out.size))
  have FT_11 := Lib.hid (FT_9.out.below B (Nat.le_refl _))
  have FF_11 := Lib.hid (FF_9.out.below B (Nat.le_refl _))
  have FR_11 := Lib.hid (FR_9.out.below B (Nat.le_refl _))
  have FP_11 := Lib.hid (FP_9.out.below B (Nat.le_refl _))
  have FX_11 := Lib.hid (FX_9.out.below B (Nat.le_refl _))
  have FM_11 := Lib.hid (FM_9.out.below B (Nat.le_refl _))
  have FW_11 := Lib.hid (FW_9.out.below B (Nat.le_refl _))
  have FS1_11 := Lib.hid (FS1_9.out.below B (Nat.le_refl _))
  have FY2_11 := Lib.hid hy2
  clear B hy2 HB9 FT_9 FF_9 FR_9 FP_9 FX_9 FM_9 FW_9 FS1_9
  have HN2 := Lib.hid hn2; clear hn2
  go_wp2_with fail
  refine (serve_Serve4 n0 (rv n0 dd0) (rv n0 vv0) (rv n0 Q0) (rv n0 F0) (rv n0 G0) HO.out.rv (fun i hi j hj => (FP_11.out.rv.pts i hi).isi j hj) (fun _ => a1) (fun _ => b1) (fun _ _ => ⟨HIX.out, HIY.out⟩) _ _ _ _ FT_11.out FF_11.out HN2.out FY2_11.out).mono ?_
  rintro e w12 ⟨⟨A2, c2, rfl, hs2⟩, B⟩
  rw [HE2.out] at hs2
  have HB12 := Lib.hid (HB11.out.trans (B.mono HB11.out.size))
  have FT_12 := Lib.hid (FT_11.out.below B (Nat.le_refl _))
  have FF_12 := Lib.hid (FF_11.out.below B (Nat.le_refl _))
  have FR_12 := Lib.hid (FR_11.out.below B (Nat.le_refl _))
  have FP_12 := Lib.hid (FP_11.out.below B (Nat.le_refl _))
  have FX_12 := Lib.hid (FX_11.out.below B (Nat.le_refl _))
  have FM_12 := Lib.hid (FM_11.out.below B (Nat.le_refl _))
  have FW_12 := Lib.hid (FW_11.out.below B (Nat.le_refl _))
  have FS1_12 := Lib.hid (FS1_11.out.below B (Nat.le_refl _))
  have FY2_12 := Lib.hid (FY2_11.out.below B (Nat.le_refl _))
  have FS2_12 := Lib.hid hs2
  clear B hs2 HB11 FT_11 FF_11 FR_11 FP_11 FX_11 FM_11 FW_11 FS1_11 FY2_11
  go_wp2_with fail
  refine (bytes_Equal_eq _ _ _ 2 [0, val] _ FS2_12.out (bx_by (l := [0, val]) FW_12.out (by show 2 ≤ maxLen; decide))).mono ?_
  rintro e w13 ⟨rfl, rfl⟩
  go_wp2_with fail
  go_ret
  exact ⟨rfl, HB12.out⟩

theorem gTab0 : Tryz.prog.globalNamed "geofence/mask.words" = some 0 := by kernel_rfl
theorem gTabType0 : (Tryz.prog.globals[0]?).map (·.type) = some 154 := by kernel_rfl
theorem cellsT0 : Tryz.prog.cellsOf 154 = 2 := by kernel_rfl
theorem cellsE0 : Tryz.prog.cellsOf 61 = 1 := by kernel_rfl
theorem tableIs0 {W : World} (h : laidMetH Tryz.prog Rows.topFenceRow.laid W) : Lib.TabIs Tryz.prog W "geofence/mask.words" .u64 [9223372036854775808, 18446744073709551615] :=
  Lib.tabIs_of_head (rest := _) gTab0 gTabType0 Tryz.underlying154 Tryz.underlying61 cellsE0 cellsT0 h
theorem table0 {W : World} (h : laidMetH Tryz.prog Rows.topFenceRow.laid W) : TabM W := ⟨(tableIs0 h).cell gTab0 0 (by decide), (tableIs0 h).cell gTab0 1 (by decide)⟩

theorem gTab1 : Tryz.prog.globalNamed "geofence/header.fixed" = some 1 := by kernel_rfl
theorem gTabType1 : (Tryz.prog.globals[1]?).map (·.type) = some 117 := by kernel_rfl
theorem cellsT1 : Tryz.prog.cellsOf 117 = 6 := by kernel_rfl
theorem cellsE1 : Tryz.prog.cellsOf 3 = 1 := by kernel_rfl
theorem tableIs1 {W : World} (h : laidMetH Tryz.prog Rows.topFenceRow.laid W) : Lib.TabIs Tryz.prog W "geofence/header.fixed" .i64 [0, 3, 4, 1, 1, 0] :=
  Lib.tabIs_of_head (rest := _) gTab1 gTabType1 Tryz.underlying117 Tryz.underlying3 cellsE1 cellsT1 (laid_tail h)
theorem table1 {W : World} (h : laidMetH Tryz.prog Rows.topFenceRow.laid W) : TabF W := ⟨(tableIs1 h).cell gTab1 0 (by decide), (tableIs1 h).cell gTab1 1 (by decide), (tableIs1 h).cell gTab1 2 (by decide), (tableIs1 h).cell gTab1 3 (by decide), (tableIs1 h).cell gTab1 4 (by decide), (tableIs1 h).cell gTab1 5 (by decide)⟩

set_option maxRecDepth 100000 in
theorem contract (H : Type) (enc : TypeId × Value → H) (W : World) (base : Nat) (args : Array Value) (ds gs : List (DataW H)) (before : List MemPlace)
    (hval : ∀ (j : Nat) t v, Tryz.f5.params[j]? = some t → args[j]? = some v → Value.okWide Tryz.prog W .any base t v)
    (hW : DataW.Whole enc Tryz.prog Tryz.f5.params.toList Rows.topFenceSpec.vars false W args.toList ds gs before) (hL : laidMetH Tryz.prog Rows.topFenceRow.laid W) :
    Calls Tryz.prog 5 args W fun e W' => ∃ v, e = .returned v ∧ Rows.topFenceSpec.post enc Tryz.prog Tryz.f5 false true false false W args v W' := by
  have hW' := hW
  obtain ⟨p, q, hA0, hV, rfl, hfz, hnd⟩ := hW
  have hA : DataW.TrodAll enc Tryz.prog W 0 (fun _ => true) true Tryz.f5.params.toList args.toList ds p := hA0
  rw [Tryz.params5] at hA hval
  obtain ⟨v0, vs0, d0, ds0, p0, q0, hargs, rfl, rfl, h0, r0⟩ := trodAll_cons hA
  obtain ⟨v1, vs1, d1, ds1, p1, q1, rfl, rfl, rfl, h1, r1⟩ := trodAll_cons r0
  obtain ⟨rfl, rfl, rfl⟩ := trodAll_nil r1
  obtain rfl : args = #[v0, v1] := by cases args; simp_all
  obtain ⟨rfl, rfl⟩ := trodVars_none hV
  have k0 := h0
  have lt0 : ∀ x ∈ p0, x.block < W.heap.size := by obtain ⟨m, hm⟩ := k0; exact DataW.trod_lt m _ _ _ hm
  have k1 := h1
  have lt1 : ∀ x ∈ p1, x.block < W.heap.size := by obtain ⟨m, hm⟩ := k1; exact DataW.trod_lt m _ _ _ hm
  obtain ⟨A0, n0, c0, rfl⟩ := okWide_slice Tryz.underlying26 (hval 0 26 v0 rfl rfl)
  obtain ⟨dd0, vv0, Q0, F0, G0, s0, rp0⟩ := Op.open_rgs (w := W) Tryz.underlying26 Tryz.underlying48 rfl rfl rfl rfl rfl rfl Tryz.underlying4 Tryz.underlying3 (by kernel_rfl) (by kernel_rfl) (by kernel_rfl) (by kernel_rfl) Tryz.underlying29 Tryz.underlying23 rfl rfl rfl rfl Tryz.underlying2 (by kernel_rfl) (by kernel_rfl) h0
  obtain ⟨a1, b1, rfl, w1, x1⟩ := Op.open_pt Tryz.underlying23 rfl rfl rfl rfl Tryz.underlying2 (by kernel_rfl) (by kernel_rfl) h1
  clear hA0
  refine (walk A0 n0 c0 dd0 vv0 Q0 F0 G0 s0 rp0 a1 b1 w1 x1 (table0 hL) (table1 hL)).mono fun e W' ⟨he, bel⟩ => ?_
  subst he
  exact ⟨_, rfl, _, _, _, [], _, [], hW', trodAll_mk1 (shut_bool Tryz.underlying4 _), (trodAll_cons_mk (Below.trod laidOut (by kernel_rfl) (of_decide_eq_true (by kernel_rfl)) k0 bel lt0) (trodAll_cons_mk (Below.trod laidOut (by kernel_rfl) (of_decide_eq_true (by kernel_rfl)) k1 bel lt1) trodAll_mk0)), rfl, bel.frame _, fun h => by cases h⟩

theorem joined : joinedFacts Tryz.prog 5 Tryz.f5 (OpenSpec.ofChange Rows.topFenceSpec).bare Rows.topFenceRow = true := by
  have e1 := enterIs
  have e2 := liftsIs
  have e3 := makeIs
  generalize hP : Tryz.prog = P at *
  unfold joinedFacts
  simp only [Bool.and_eq_true]
  repeat' apply And.intro
  all_goals first
    | with_reducible exact e1
    | (rw [e2]; kernel_rfl)
    | (rw [e3]; kernel_rfl)
    | (subst hP; kernel_rfl)

noncomputable def laidHeap (os : Os) : Array Obj :=
  ((World.holding Tryz.prog os ⟨#[], #[], []⟩).heap.modify 0 (fun
      | .cells _ t frozen => .cells #[.int .u64 9223372036854775808, .int .u64 18446744073709551615] t frozen
      | o => o)).modify 1 (fun
      | .cells _ t frozen => .cells #[.int .i64 0, .int .i64 3, .int .i64 4, .int .i64 1, .int .i64 1, .int .i64 0] t frozen
      | o => o)
noncomputable def laidWorld (os : Os) : World :=
  { World.holding Tryz.prog os ⟨#[], #[], []⟩ with heap := laidHeap os }
theorem laid_met (os : Os) : laidMet Tryz.prog Rows.topFenceRow.laid ((laidWorld os).forCall (fun _ _ => 0) ⟨#[], #[.slice none 0 0, .agg #[.int .i64 0, .int .i64 0]], []⟩).memory :=
  laidMet_of_run' 8 (by kernel_rfl) (by kernel_rfl)
theorem reads (os : Os) {H : Type} (enc : TypeId × Value → H) : ∃ places, DataW.whole enc Tryz.prog ((laidWorld os).forCall (fun _ _ => 0) ⟨#[], #[.slice none 0 0, .agg #[.int .i64 0, .int .i64 0]], []⟩).memory Tryz.f5.params.toList Rows.topFenceSpec.vars false (#[.slice none 0 0, .agg #[.int .i64 0, .int .i64 0]] : Array Value).toList 8 = some ([.nil, .agg [.lit (.int .i64 0), .lit (.int .i64 0)]], [], places) :=
  ⟨[], by kernel_rfl⟩

set_option maxRecDepth 100000 in
theorem lifted (os : Os) (started : os.Started) (H : Type) (enc : TypeId × Value → H) (F : Stop.Interp) :
    ReturnsInHanded {} Tryz.checked os 5 .any ((OpenSpec.ofChange Rows.topFenceSpec).preRow enc Tryz.prog Tryz.f5 Rows.topFenceRow.domain false Rows.topFenceRow.laid) (((OpenSpec.ofChange Rows.topFenceSpec).at F).post enc Tryz.prog Tryz.f5 false true false false) := by
  obtain ⟨places, hx⟩ := reads os enc
  refine returnsInHanded_of_row (C := Tryz.checked) (s := OpenSpec.ofChange Rows.topFenceSpec) own started (by kernel_rfl) Tryz.func5
    (witness_row_at (enc := enc) (C := Tryz.checked) false (laidWorld os) #[.slice none 0 0, .agg #[.int .i64 0, .int .i64 0]] rfl (by kernel_rfl) (by kernel_rfl) (by kernel_rfl)
      (OpenSpec.preRow_of_cond 8 hx (by kernel_rfl) (fun k hk => by cases hk) (by kernel_rfl) (laid_met os))) ?_
  intro W base args ds gs before hval hW _ _ _ hL _ _
  exact contract H enc W base args ds gs before hval hW hL

theorem said : Rows.TopFenceSaid :=
  OpenClaim.holds_of_cond 5 Tryz.f5 rfl rfl rfl rfl rfl rfl rfl ⟨rfl, rfl, rfl, rfl, rfl⟩ rfl rfl rfl rfl rfl (by kernel_rfl) Tryz.func5 (joined)
    (of_decide_eq_true (by kernel_rfl)) (by unfold Func.isWrapper; first | (rw [if_pos (by decide +kernel)]; kernel_rfl) | (rw [if_neg (by decide +kernel)]; exact ⟨rfl, rfl⟩))
    (fun os started H enc _ F => by rw [OpenClaim.pre_eq_preRow]; exact lifted os started H enc F)

theorem plain (f : FuncId) (fn : Func) (hf : Tryz.pinned.checked.prog.funcNamed "geofence/geofencetop.TopFence" = some f) (hfn : Tryz.pinned.checked.prog.funcs[f]? = some fn) :
    false = Tryz.pinned.checked.prog.looks [] ∧ ∀ (j : Nat) t, fn.params[j]? = some t → Tryz.pinned.checked.prog.wantsStandIn t = false := by
  obtain rfl : f = 5 := Option.some.inj ((show Tryz.prog.funcNamed "geofence/geofencetop.TopFence" = some 5 by kernel_rfl).symm.trans hf) |>.symm
  obtain rfl : fn = Tryz.f5 := (Option.some.inj (Tryz.func5.symm.trans hfn)).symm
  refine ⟨by kernel_rfl, fun j t ht => ?_⟩
  rw [Tryz.params5] at ht
  have hm := Array.mem_of_getElem? ht
  simp at hm
  rcases hm with rfl | rfl
  · exact (show Tryz.prog.wantsStandIn 26 = false by kernel_rfl)
  · exact (show Tryz.prog.wantsStandIn 23 = false by kernel_rfl)

/-- THE CARD -/
theorem card : Rows.TopFenceCardSaid :=
  Claim7.holds_tied_plain_at .later [] _ _ _ _ said (fun _ h => by cases h) (by kernel_rfl) (fun _ h => by cases h) topFence_row_tie rfl ⟨rfl, rfl⟩ (mainText) rfl plain (by kernel_rfl)
#print axioms card
end Go.Proofs.YtjdiilkljgljkaaGreatDoor.topFence
