/- TopBatch: for every input the law returns true, and each argument reads afterwards as it read before; the package variable that the row lists holds what it lists. -/
import Derived.Test.YtjdiilkljgljkaaGreatDoorCards
import Derived.Test.YtjdiilkljgljkaaGreatDoorTie
import Derived.Test.YtjdiilkljgljkaaGreatDoorMl
import Derived.Test.YtjdiilkljgljkaaGreatDoorMm
import Derived.Test.YtjdiilkljgljkaaGreatDoorMn
import Derived.Test.YtjdiilkljgljkaaGreatDoorMa
import Derived.Test.YtjdiilkljgljkaaGreatDoorMc
import Derived.WalkKit
import Derived.ProofKit
import Derived.OpenShut
import Derived.Below
import Derived.Deep.DeepHandedRow
import Derived.Lib.LaidTab
namespace Go.Proofs.YtjdiilkljgljkaaGreatDoor.topBatch
open Go.ChangeShapes Go.WideShapes Go.ChangeAt Go.RowKit Wd
set_option linter.unusedVariables false
set_option linter.unusedSimpArgs false
theorem own : ownKnob Tryz.prog.godebug = none := by kernel_rfl
theorem laidOut : laidOutB Tryz.prog = true := by kernel_rfl
set_option maxRecDepth 100000 in
set_option maxHeartbeats 4000000 in
theorem walk {w : World} (A0 : Option Addr) (n0 c0 : Nat) (dd0 : Nat → Bool) (vv0 : Nat → Int) (Q0 : Nat → Option Addr × Nat × Nat) (F0 G0 : Nat → Nat → Int) (s0 : Rgs w A0 n0 c0 dd0 vv0 Q0) (rp0 : RgP w n0 Q0 F0 G0) (A1 : Option Addr) (n1 c1 : Nat) (f1 g1 qd1 : Nat → Int) (s1 : Qus w A1 n1 c1 f1 g1 qd1) (hT : TabM w) (hF : TabF w) :
    Calls Tryz.prog 6 #[.slice A0 n0 c0, .slice A1 n1 c1] w fun e w' => e = .returned (.bool true) ∧ Below w.heap.size w w' := by
  have HB0 := η (Below.refl w.heap.size w)
  have FT := η hT; clear hT
  have FF := η hF; clear hF
  have FR := η s0; have FP := η rp0; have FQ := η s1; clear s0 rp0 s1
  go_enter Tryz.func6, Tryz.ntmps6
  go_wp2_with fail
  refine (ZgQ A0 n0 c0 dd0 vv0 Q0 A1 n1 c1 _ FR.out).mono ?_
  rintro e w1 ⟨⟨x, rfl, hsk⟩, B⟩
  have HB1 := η (HB0.out.trans (B.mono HB0.out.size))
  have FT_1 := η (FT.out.below B ν)
  have FF_1 := η (FF.out.below B ν)
  have FR_1 := η (FR.out.below B ν)
  have FP_1 := η (FP.out.below B ν)
  have FQ_1 := η (FQ.out.below B ν)
  clear B  HB0 FT FF FR FP FQ
  by_cases hx : x > 0
  · clear hsk
    go_wp2_with fail
    refine (Zb3 _ FT_1.out FF_1.out).mono ?_
    rintro e w2 ⟨rfl, B⟩
    have HB2 := η (HB1.out.trans (B.mono HB1.out.size))
    have FT_2 := η (FT_1.out.below B ν)
    have FF_2 := η (FF_1.out.below B ν)
    have FR_2 := η (FR_1.out.below B ν)
    have FP_2 := η (FP_1.out.below B ν)
    have FQ_2 := η (FQ_1.out.below B ν)
    clear B  HB1 FT_1 FF_1 FR_1 FP_1 FQ_1
    go_wp2_with fail
    go_ret
    exact ⟨rfl, HB2.out⟩
  have H100 := η (show n1 ≤ 100 from by omega); clear hsk
  go_wp2_with fail
  refine (Zak A0 n0 c0 dd0 vv0 Q0 _ FR_1.out).mono ?_
  rintro e w2 ⟨⟨y, rfl, hy⟩, B⟩
  have HB2 := η (HB1.out.trans (B.mono HB1.out.size))
  have FT_2 := η (FT_1.out.below B ν)
  have FF_2 := η (FF_1.out.below B ν)
  have FR_2 := η (FR_1.out.below B ν)
  have FP_2 := η (FP_1.out.below B ν)
  have FQ_2 := η (FQ_1.out.below B ν)
  clear B  HB1 FT_1 FF_1 FR_1 FP_1 FQ_1
  by_cases hy0 : y = 0
  rotate_left 1
  · have hy2 : (y != 0) = true := by simpa using hy0
    clear hy hy0
    go_wp2_with fail
    refine (Zb3 _ FT_2.out FF_2.out).mono ?_
    rintro e w3 ⟨rfl, B⟩
    have HB3 := η (HB2.out.trans (B.mono HB2.out.size))
    have FT_3 := η (FT_2.out.below B ν)
    have FF_3 := η (FF_2.out.below B ν)
    have FR_3 := η (FR_2.out.below B ν)
    have FP_3 := η (FP_2.out.below B ν)
    have FQ_3 := η (FQ_2.out.below B ν)
    clear B  HB2 FT_2 FF_2 FR_2 FP_2 FQ_2
    go_wp2_with fail
    go_ret
    exact ⟨rfl, HB3.out⟩
  have HO := η (hy.1 hy0); subst hy0; clear hy
  by_cases hn0 : n1 = 0
  · subst hn0
    go_wp2_with fail
    refine (Zb3 _ FT_2.out FF_2.out).mono ?_
    rintro e w3 ⟨rfl, B⟩
    have HB3 := η (HB2.out.trans (B.mono HB2.out.size))
    have FT_3 := η (FT_2.out.below B ν)
    have FF_3 := η (FF_2.out.below B ν)
    have FR_3 := η (FR_2.out.below B ν)
    have FP_3 := η (FP_2.out.below B ν)
    have FQ_3 := η (FQ_2.out.below B ν)
    clear B  HB2 FT_2 FF_2 FR_2 FP_2 FQ_2
    go_wp2_with fail
    go_ret
    exact ⟨rfl, HB3.out⟩
  have H1 := η (show 1 ≤ n1 from by omega)
  have hn1 : ¬ ((n1 : Int) = 0) := by omega
  have hn2 : ((n1 : Int) == 0) = false := by simpa using hn0
  obtain ⟨V, hV⟩ : ∃ V, allB (vR vv0 Q0 F0 G0) n0 = V := ⟨_, rfl⟩
  obtain ⟨KK, hK⟩ : ∃ KK, Zag V dd0 vv0 Q0 F0 G0 n0 f1 g1 qd1 = KK := ⟨_, rfl⟩
  obtain ⟨X, hX⟩ : ∃ X, b2i V = X := ⟨_, rfl⟩
  obtain ⟨NN, hN⟩ : ∃ NN, Jy KK n1 = NN := ⟨_, rfl⟩
  have HX01 := η (show X = 0 ∨ X = 1 from by rw [← hX]; cases V <;> simp [b2i])
  have HNL := η (show NN ≤ n1 from by rw [← hN]; exact Zas _ _)
  have HX0 := η (show X = 0 → NN = 0 from fun e => by
    have e2 : V = false := by rw [← hX] at e; cases V <;> simp_all [b2i]
    rw [← hN, ← hK, e2]; exact Zbw _ _ _ _ _ _ _ _ _ _)
  have HV := η hV; have HK := η hK; have HXX := η hX; have HNN := η hN; clear hV hK hX hN
  have HKR := η (show Zag V dd0 vv0 Q0 F0 G0 n0 (rv n1 f1) (rv n1 g1) (rv n1 qd1) = rv n1 KK from by rw [← HK.out]; rfl)
  have HNR := η (show Jy (rv n1 KK) n1 = NN from (Zih KK n1).trans HNN.out)
  have HKQ := η (show ∀ i, KK i = keyQ (V && memR dd0 (lR vv0 Q0 F0 G0 (f1 i) (g1 i)) n0) (qd1 i) from fun i => by rw [← HK.out]; rfl)
  have HKI := η (show ∀ i, i < n1 → IsK (KK i) from fun i hi => by rw [HKQ.out]; exact Zfq (FQ_2.out.isi i hi).2.2)
  go_wp2_with fail
  refine (Zdn A0 n0 c0 dd0 vv0 Q0 HO.out.toOkK _ FR_2.out).mono ?_
  rintro e w3 ⟨⟨gp, rcp, rfl, hg⟩, B⟩
  have HB3 := η (HB2.out.trans (B.mono HB2.out.size))
  have FT_3 := η (FT_2.out.below B ν)
  have FF_3 := η (FF_2.out.below B ν)
  have FR_3 := η (FR_2.out.below B ν)
  have FP_3 := η (FP_2.out.below B ν)
  have FQ_3 := η (FQ_2.out.below B ν)
  have FG_3 := η hg
  clear B hg HB2 FT_2 FF_2 FR_2 FP_2 FQ_2
  go_wp2_with fail
  have B : Below w.heap.size w (w3.alloc (.cells #[.int .i64 5, .int .i64 0, .slice (some ⟨gp, 0, none⟩) n0 rcp, .int .i64 (n1 : Int)] 28)) := (HB3.out.alloc HB3.out.size _)
  have C : Below w3.heap.size w3 (w3.alloc (.cells #[.int .i64 5, .int .i64 0, .slice (some ⟨gp, 0, none⟩) n0 rcp, .int .i64 (n1 : Int)] 28)) := ((Below.refl w3.heap.size w3).alloc ν _)
  have X0 : Bx (w3.alloc (.cells #[.int .i64 5, .int .i64 0, .slice (some ⟨gp, 0, none⟩) n0 rcp, .int .i64 (n1 : Int)] 28)) (w3.heap.size) #[.int .i64 5, .int .i64 0, .slice (some ⟨gp, 0, none⟩) n0 rcp, .int .i64 (n1 : Int)] 28 := by simpa using (Bx.new w3 #[.int .i64 5, .int .i64 0, .slice (some ⟨gp, 0, none⟩) n0 rcp, .int .i64 (n1 : Int)] 28)
  have FT_4 := η (FT_3.out.below C ν)
  have FF_4 := η (FF_3.out.below C ν)
  have FR_4 := η (FR_3.out.below C ν)
  have FP_4 := η (FP_3.out.below C ν)
  have FQ_4 := η (FQ_3.out.below C ν)
  have FG_4 := η (FG_3.out.below C ν)
  have HB4 := η B
  have FH_4 := η X0
  clear B C X0 HB3 FT_3 FF_3 FR_3 FP_3 FQ_3 FG_3
  generalize (w3.alloc (.cells #[.int .i64 5, .int .i64 0, .slice (some ⟨gp, 0, none⟩) n0 rcp, .int .i64 (n1 : Int)] 28)) = w4 at *
  skip
  refine (ZhH A0 n0 c0 dd0 vv0 Q0 F0 G0 A1 n1 c1 f1 g1 qd1 H1.out (by have := H100.out; omega) V KK NN HV.out HKQ.out HKI.out HNN.out _ FR_4.out FP_4.out HO.out FQ_4.out).mono ?_
  rintro e w5 ⟨⟨RA, rc, hs, rfl, hsrt, hrc⟩, B⟩
  rw [HXX.out]
  have HB5 := η (HB4.out.trans (B.mono HB4.out.size))
  have FT_5 := η (FT_4.out.below B ν)
  have FF_5 := η (FF_4.out.below B ν)
  have FR_5 := η (FR_4.out.below B ν)
  have FP_5 := η (FP_4.out.below B ν)
  have FQ_5 := η (FQ_4.out.below B ν)
  have FG_5 := η (FG_4.out.below B ν)
  have FH_5 := η (FH_4.out.below B ν)
  have FC_5 := η hrc
  clear B hrc HB4 FT_4 FF_4 FR_4 FP_4 FQ_4 FG_4 FH_4
  have HSRT := η hsrt; clear hsrt
  have vH0 := (FH_5.out.alloc (.cells #[.int .i64 X, .int .i64 (NN : Int), .slice RA n1 rc] 55)).cell 0 (v := .int .i64 5) rfl
  have vH1 := (FH_5.out.alloc (.cells #[.int .i64 X, .int .i64 (NN : Int), .slice RA n1 rc] 55)).cell 1 (v := .int .i64 0) rfl
  have vH2 := (FH_5.out.alloc (.cells #[.int .i64 X, .int .i64 (NN : Int), .slice RA n1 rc] 55)).cell 2 (v := .slice (some ⟨gp, 0, none⟩) n0 rcp) rfl
  have vH3 := (FH_5.out.alloc (.cells #[.int .i64 X, .int .i64 (NN : Int), .slice RA n1 rc] 55)).cell 3 (v := .int .i64 (n1 : Int)) rfl
  have vA0 := (Bx.new w5 #[.int .i64 X, .int .i64 (NN : Int), .slice RA n1 rc] 55).cell 0 (v := .int .i64 X) rfl
  have vA1 := (Bx.new w5 #[.int .i64 X, .int .i64 (NN : Int), .slice RA n1 rc] 55).cell 1 (v := .int .i64 (NN : Int)) rfl
  have vA2 := (Bx.new w5 #[.int .i64 X, .int .i64 (NN : Int), .slice RA n1 rc] 55).cell 2 (v := .slice RA n1 rc) rfl
  go_wp2_with fail
  clear vH0 vH1 vH2 vH3 vA0 vA1 vA2
  have B : Below w.heap.size w (w5.alloc (.cells #[.int .i64 X, .int .i64 (NN : Int), .slice RA n1 rc] 55)) := (HB5.out.alloc HB5.out.size _)
  have C : Below w5.heap.size w5 (w5.alloc (.cells #[.int .i64 X, .int .i64 (NN : Int), .slice RA n1 rc] 55)) := ((Below.refl w5.heap.size w5).alloc ν _)
  have X0 : Bx (w5.alloc (.cells #[.int .i64 X, .int .i64 (NN : Int), .slice RA n1 rc] 55)) (w5.heap.size) #[.int .i64 X, .int .i64 (NN : Int), .slice RA n1 rc] 55 := by simpa using (Bx.new w5 #[.int .i64 X, .int .i64 (NN : Int), .slice RA n1 rc] 55)
  have FT_6 := η (FT_5.out.below C ν)
  have FF_6 := η (FF_5.out.below C ν)
  have FR_6 := η (FR_5.out.below C ν)
  have FP_6 := η (FP_5.out.below C ν)
  have FQ_6 := η (FQ_5.out.below C ν)
  have FG_6 := η (FG_5.out.below C ν)
  have FH_6 := η (FH_5.out.below C ν)
  have FC_6 := η (FC_5.out.below C ν)
  have HB6 := η B
  have FA_6 := η X0
  clear B C X0 HB5 FT_5 FF_5 FR_5 FP_5 FQ_5 FG_5 FH_5 FC_5
  generalize (w5.alloc (.cells #[.int .i64 X, .int .i64 (NN : Int), .slice RA n1 rc] 55)) = w6 at *
  skip
  refine (ZdV _ n0 rcp dd0 vv0 _ X NN n1 rc RA hs HX01.out HNL.out HX0.out H1.out (by have := H100.out; omega) (fun i hi => HNN.out ▸ Zfv HSRT.out hi) _ FG_6.out (fun _ _ => rfl) HO.out.toOkK FC_6.out).mono ?_
  rintro e w7 ⟨⟨v_, rfl, ho_⟩, B⟩
  obtain ⟨WA, WN, wc, rfl, hwn, hwy⟩ := ho_.by'; clear ho_; have HWN := η hwn; clear hwn
  have HB7 := η (HB6.out.trans (B.mono HB6.out.size))
  have FT_7 := η (FT_6.out.below B ν)
  have FF_7 := η (FF_6.out.below B ν)
  have FR_7 := η (FR_6.out.below B ν)
  have FP_7 := η (FP_6.out.below B ν)
  have FQ_7 := η (FQ_6.out.below B ν)
  have FG_7 := η (FG_6.out.below B ν)
  have FH_7 := η (FH_6.out.below B ν)
  have FC_7 := η (FC_6.out.below B ν)
  have FA_7 := η (FA_6.out.below B ν)
  have FW_7 := η hwy
  clear B hwy HB6 FT_6 FF_6 FR_6 FP_6 FQ_6 FG_6 FH_6 FC_6 FA_6
  go_wp2_with fail
  refine (Zjc A1 n1 c1 f1 g1 qd1 _ FQ_7.out H1.out (by have := H100.out; omega)).mono ?_
  rintro e wc ⟨⟨gm, cm, cur, rfl, hgm, hbx, h1m, h2m, -, htk⟩, Bc⟩
  have HBX := η hbx; have HGM := η hgm; have HTK := η htk; have H1M := η h1m; have H2M := η h2m; have HBC := η Bc; clear hbx hgm htk h1m h2m Bc
  go_wp2_with fail
  refine (ZhG gm n1 cm f1 g1 qd1 cur _ HBX.out HTK.out (FQ_7.out.isi) H1M.out H2M.out).mono ?_
  rintro e wd ⟨rfl, hm, Bd⟩
  have B := HBC.out.trans (Bd.mono HGM.out); clear Bd HBC HBX HTK H1M H2M HGM
  have HB8 := η (HB7.out.trans (B.mono HB7.out.size))
  have FT_8 := η (FT_7.out.below B ν)
  have FF_8 := η (FF_7.out.below B ν)
  have FR_8 := η (FR_7.out.below B ν)
  have FP_8 := η (FP_7.out.below B ν)
  have FQ_8 := η (FQ_7.out.below B ν)
  have FW_8 := η (FW_7.out.below B ν)
  have FM_8 := η hm
  clear B hm HB7 FT_7 FF_7 FR_7 FP_7 FQ_7 FW_7
  go_wp2_with fail
  refine (Zb3 _ FT_8.out FF_8.out).mono ?_
  rintro e w9 ⟨rfl, B⟩
  have HB9 := η (HB8.out.trans (B.mono HB8.out.size))
  have FT_9 := η (FT_8.out.below B ν)
  have FF_9 := η (FF_8.out.below B ν)
  have FR_9 := η (FR_8.out.below B ν)
  have FP_9 := η (FP_8.out.below B ν)
  have FQ_9 := η (FQ_8.out.below B ν)
  have FW_9 := η (FW_8.out.below B ν)
  have FM_9 := η (FM_8.out.below B ν)
  clear B  HB8 FT_8 FF_8 FR_8 FP_8 FQ_8 FW_8 FM_8
  go_wp2_with fail
  refine (Zdv A0 n0 c0 dd0 vv0 Q0 F0 G0 A1 n1 c1 f1 g1 qd1 HO.out H1.out (by have := H100.out; omega) _ FR_9.out FP_9.out FQ_9.out).mono ?_
  rintro e w10 ⟨⟨A1_, N1_, c1_, rfl, hn1, hy1⟩, B⟩
  have HB10 := η (HB9.out.trans (B.mono HB9.out.size))
  have FT_10 := η (FT_9.out.below B ν)
  have FF_10 := η (FF_9.out.below B ν)
  have FR_10 := η (FR_9.out.below B ν)
  have FP_10 := η (FP_9.out.below B ν)
  have FQ_10 := η (FQ_9.out.below B ν)
  have FW_10 := η (FW_9.out.below B ν)
  have FM_10 := η (FM_9.out.below B ν)
  have FY1_10 := η hy1
  clear B hy1 HB9 FT_9 FF_9 FR_9 FP_9 FQ_9 FW_9 FM_9
  have HN1 := η hn1; clear hn1
  go_wp2_with fail
  refine (Zcp n1 H1.out H100.out n0 dd0 vv0 Q0 F0 G0 HO.out (fun i hi j hj => (FP_10.out.pts i hi).isi j hj) f1 g1 qd1 (FQ_10.out.isi) V KK X NN HV.out HK.out HXX.out HNN.out _ _ _ _ FT_10.out FF_10.out HN1.out FY1_10.out).mono ?_
  rintro e w11 ⟨⟨B1_, L1_, e1_, h1_, rfl, hs1, hL1, hz1⟩, B⟩
  rw [Zdw hs1 HSRT.out] at hL1 hz1; have HL1 := η hL1; clear hs1 hL1
  have HB11 := η (HB10.out.trans (B.mono HB10.out.size))
  have FT_11 := η (FT_10.out.below B ν)
  have FF_11 := η (FF_10.out.below B ν)
  have FR_11 := η (FR_10.out.below B ν)
  have FP_11 := η (FP_10.out.below B ν)
  have FQ_11 := η (FQ_10.out.below B ν)
  have FW_11 := η (FW_10.out.below B ν)
  have FM_11 := η (FM_10.out.below B ν)
  have FY1_11 := η (FY1_10.out.below B ν)
  have FS1_11 := η hz1
  clear B hz1 HB10 FT_10 FF_10 FR_10 FP_10 FQ_10 FW_10 FM_10 FY1_10
  go_wp2_with fail
  refine (Zcq _ _ _ _ _ _ _ HL1.out HWN.out _ FS1_11.out FW_11.out).mono ?_
  rintro e w12 ⟨rfl, rfl⟩
  go_wp2_with fail
  refine (Zdv A0 n0 c0 dd0 vv0 Q0 F0 G0 (some ⟨gm, 0, none⟩) n1 cm (rv n1 f1) (rv n1 g1) (rv n1 qd1) HO.out H1.out (by have := H100.out; omega) _ FR_11.out FP_11.out FM_11.out).mono ?_
  rintro e w13 ⟨⟨A2_, N2_, c2_, rfl, hn2, hy2⟩, B⟩
  have HB13 := η (HB11.out.trans (B.mono HB11.out.size))
  have FT_13 := η (FT_11.out.below B ν)
  have FF_13 := η (FF_11.out.below B ν)
  have FR_13 := η (FR_11.out.below B ν)
  have FP_13 := η (FP_11.out.below B ν)
  have FQ_13 := η (FQ_11.out.below B ν)
  have FW_13 := η (FW_11.out.below B ν)
  have FM_13 := η (FM_11.out.below B ν)
  have FS1_13 := η (FS1_11.out.below B ν)
  have FY2_13 := η hy2
  clear B hy2 HB11 FT_11 FF_11 FR_11 FP_11 FQ_11 FW_11 FM_11 FS1_11
  have HN2 := η hn2; clear hn2
  go_wp2_with fail
  refine (Zcp n1 H1.out H100.out n0 dd0 vv0 Q0 F0 G0 HO.out (fun i hi j hj => (FP_13.out.pts i hi).isi j hj) (rv n1 f1) (rv n1 g1) (rv n1 qd1) (FM_13.out.isi) V (rv n1 KK) X NN HV.out HKR.out HXX.out HNR.out _ _ _ _ FT_13.out FF_13.out HN2.out FY2_13.out).mono ?_
  rintro e w14 ⟨⟨B2_, L2_, e2_, h2_, rfl, hs2, hL2, hz2⟩, B⟩
  rw [Zdw hs2.unrv HSRT.out] at hL2 hz2; have HL2 := η hL2; clear hs2 hL2
  have HB14 := η (HB13.out.trans (B.mono HB13.out.size))
  have FT_14 := η (FT_13.out.below B ν)
  have FF_14 := η (FF_13.out.below B ν)
  have FR_14 := η (FR_13.out.below B ν)
  have FP_14 := η (FP_13.out.below B ν)
  have FQ_14 := η (FQ_13.out.below B ν)
  have FW_14 := η (FW_13.out.below B ν)
  have FM_14 := η (FM_13.out.below B ν)
  have FS1_14 := η (FS1_13.out.below B ν)
  have FY2_14 := η (FY2_13.out.below B ν)
  have FS2_14 := η hz2
  clear B hz2 HB13 FT_13 FF_13 FR_13 FP_13 FQ_13 FW_13 FM_13 FS1_13 FY2_13
  go_wp2_with fail
  refine (Zcq _ _ _ _ _ _ _ HL2.out HWN.out _ FS2_14.out FW_14.out).mono ?_
  rintro e w15 ⟨rfl, rfl⟩
  go_wp2_with fail
  go_ret
  exact ⟨rfl, HB14.out⟩
theorem gTab0 : Tryz.prog.globalNamed "geofence/mask.words" = some 0 := by kernel_rfl
theorem gTabType0 : (Tryz.prog.globals[0]?).map (·.type) = some 154 := by kernel_rfl
theorem cellsT0 : Tryz.prog.cellsOf 154 = 2 := by kernel_rfl
theorem cellsE0 : Tryz.prog.cellsOf 61 = 1 := by kernel_rfl
theorem tableIs0 {W : World} (h : laidMetH Tryz.prog Rows.topBatchRow.laid W) : Lib.TabIs Tryz.prog W "geofence/mask.words" .u64 [9223372036854775808, 18446744073709551615] :=
  Lib.tabIs_of_head (rest := _) gTab0 gTabType0 Tryz.underlying154 Tryz.underlying61 cellsE0 cellsT0 h
theorem table0 {W : World} (h : laidMetH Tryz.prog Rows.topBatchRow.laid W) : TabM W := ⟨(tableIs0 h).cell gTab0 0 (by decide), (tableIs0 h).cell gTab0 1 (by decide)⟩
theorem gTab1 : Tryz.prog.globalNamed "geofence/header.fixed" = some 1 := by kernel_rfl
theorem gTabType1 : (Tryz.prog.globals[1]?).map (·.type) = some 117 := by kernel_rfl
theorem cellsT1 : Tryz.prog.cellsOf 117 = 6 := by kernel_rfl
theorem cellsE1 : Tryz.prog.cellsOf 3 = 1 := by kernel_rfl
theorem tableIs1 {W : World} (h : laidMetH Tryz.prog Rows.topBatchRow.laid W) : Lib.TabIs Tryz.prog W "geofence/header.fixed" .i64 [0, 3, 4, 1, 1, 0] :=
  Lib.tabIs_of_head (rest := _) gTab1 gTabType1 Tryz.underlying117 Tryz.underlying3 cellsE1 cellsT1 (ZhJ h)
theorem table1 {W : World} (h : laidMetH Tryz.prog Rows.topBatchRow.laid W) : TabF W := ⟨(tableIs1 h).cell gTab1 0 (by decide), (tableIs1 h).cell gTab1 1 (by decide), (tableIs1 h).cell gTab1 2 (by decide), (tableIs1 h).cell gTab1 3 (by decide), (tableIs1 h).cell gTab1 4 (by decide), (tableIs1 h).cell gTab1 5 (by decide)⟩
set_option maxRecDepth 100000 in
theorem contract (H : Type) (enc : TypeId × Value → H) (W : World) (base : Nat) (args : Array Value) (ds gs : List (DataW H)) (before : List MemPlace)
    (hval : ∀ (j : Nat) t v, Tryz.f6.params[j]? = some t → args[j]? = some v → Value.okWide Tryz.prog W .any base t v)
    (hW : DataW.Whole enc Tryz.prog Tryz.f6.params.toList Rows.topBatchSpec.vars false W args.toList ds gs before) (hL : laidMetH Tryz.prog Rows.topBatchRow.laid W) :
    Calls Tryz.prog 6 args W fun e W' => ∃ v, e = .returned v ∧ Rows.topBatchSpec.post enc Tryz.prog Tryz.f6 false true false false W args v W' := by
  have hW' := hW
  obtain ⟨p, q, hA0, hV, rfl, hfz, hnd⟩ := hW
  have hA : DataW.TrodAll enc Tryz.prog W 0 (fun _ => true) true Tryz.f6.params.toList args.toList ds p := hA0
  rw [Tryz.params6] at hA hval
  obtain ⟨v0, vs0, d0, ds0, p0, q0, hargs, rfl, rfl, h0, r0⟩ := trodAll_cons hA
  obtain ⟨v1, vs1, d1, ds1, p1, q1, rfl, rfl, rfl, h1, r1⟩ := trodAll_cons r0
  obtain ⟨rfl, rfl, rfl⟩ := trodAll_nil r1
  obtain rfl : args = #[v0, v1] := by cases args; simp_all
  obtain ⟨rfl, rfl⟩ := trodVars_none hV
  have k0 := h0
  have lt0 : ∀ x ∈ p0, x.block < W.heap.size := by obtain ⟨m, hm⟩ := k0; exact DataW.trod_lt m _ _ _ hm
  have k1 := h1
  have lt1 : ∀ x ∈ p1, x.block < W.heap.size := by obtain ⟨m, hm⟩ := k1; exact DataW.trod_lt m _ _ _ hm
  obtain ⟨A0, n0, c0, rfl⟩ := okWide_slice Tryz.underlying26 (hval 0 26 v0 rfl rfl)
  obtain ⟨dd0, vv0, Q0, F0, G0, s0, rp0⟩ := Op.open_rgs (w := W) Tryz.underlying26 Tryz.underlying48 rfl rfl rfl rfl rfl rfl Tryz.underlying4 Tryz.underlying3 (by kernel_rfl) (by kernel_rfl) (by kernel_rfl) (by kernel_rfl) Tryz.underlying29 Tryz.underlying23 rfl rfl rfl rfl Tryz.underlying2 (by kernel_rfl) (by kernel_rfl) h0
  obtain ⟨A1, n1, c1, rfl⟩ := okWide_slice Tryz.underlying30 (hval 1 30 v1 rfl rfl)
  obtain ⟨f1, g1, qd1, s1⟩ := Op.open_qus (w := W) Tryz.underlying30 Tryz.underlying63 rfl rfl rfl rfl Tryz.underlying23 rfl rfl rfl rfl Tryz.underlying2 (by kernel_rfl) (by kernel_rfl) Tryz.underlying61 (by kernel_rfl) (by kernel_rfl) h1
  clear hA0
  refine (walk A0 n0 c0 dd0 vv0 Q0 F0 G0 s0 rp0 A1 n1 c1 f1 g1 qd1 s1 (table0 hL) (table1 hL)).mono fun e W' ⟨he, bel⟩ => ?_
  subst he
  exact ⟨_, rfl, _, _, _, [], _, [], hW', trodAll_mk1 (shut_bool Tryz.underlying4 _), (trodAll_cons_mk (Below.trod laidOut (by kernel_rfl) (of_decide_eq_true (by kernel_rfl)) k0 bel lt0) (trodAll_cons_mk (Below.trod laidOut (by kernel_rfl) (of_decide_eq_true (by kernel_rfl)) k1 bel lt1) trodAll_mk0)), rfl, bel.frame _, fun h => by cases h⟩
theorem joined : joinedFacts Tryz.prog 6 Tryz.f6 (OpenSpec.ofChange Rows.topBatchSpec).bare Rows.topBatchRow = true := by
  have e1 := Zjj
  have e2 := Zjh
  have e3 := ZjO
  generalize hP : Tryz.prog = P at *
  unfold joinedFacts
  simp only [Bool.and_eq_true]
  repeat' apply And.intro
  all_goals first
    | with_reducible exact e1
    | (rw [e2]; kernel_rfl)
    | (rw [e3]; kernel_rfl)
    | (subst hP; kernel_rfl)
noncomputable def laidHeap (os : Os) : Array Obj :=
  ((World.holding Tryz.prog os ⟨#[], #[], []⟩).heap.modify 0 (fun
      | .cells _ t frozen => .cells #[.int .u64 9223372036854775808, .int .u64 18446744073709551615] t frozen
      | o => o)).modify 1 (fun
      | .cells _ t frozen => .cells #[.int .i64 0, .int .i64 3, .int .i64 4, .int .i64 1, .int .i64 1, .int .i64 0] t frozen
      | o => o)
noncomputable def laidWorld (os : Os) : World :=
  { World.holding Tryz.prog os ⟨#[], #[], []⟩ with heap := laidHeap os }
theorem laid_met (os : Os) : laidMet Tryz.prog Rows.topBatchRow.laid ((laidWorld os).forCall (fun _ _ => 0) ⟨#[], #[.slice none 0 0, .slice none 0 0], []⟩).memory :=
  laidMet_of_run' 8 (by kernel_rfl) (by kernel_rfl)
theorem reads (os : Os) {H : Type} (enc : TypeId × Value → H) : ∃ places, DataW.whole enc Tryz.prog ((laidWorld os).forCall (fun _ _ => 0) ⟨#[], #[.slice none 0 0, .slice none 0 0], []⟩).memory Tryz.f6.params.toList Rows.topBatchSpec.vars false (#[.slice none 0 0, .slice none 0 0] : Array Value).toList 8 = some ([.nil, .nil], [], places) :=
  ⟨[], by kernel_rfl⟩
set_option maxRecDepth 100000 in
theorem lifted (os : Os) (started : os.Started) (H : Type) (enc : TypeId × Value → H) (F : Stop.Interp) :
    ReturnsInHanded {} Tryz.checked os 6 .any ((OpenSpec.ofChange Rows.topBatchSpec).preRow enc Tryz.prog Tryz.f6 Rows.topBatchRow.domain false Rows.topBatchRow.laid) (((OpenSpec.ofChange Rows.topBatchSpec).at F).post enc Tryz.prog Tryz.f6 false true false false) := by
  obtain ⟨places, hx⟩ := reads os enc
  refine returnsInHanded_of_row (C := Tryz.checked) (s := OpenSpec.ofChange Rows.topBatchSpec) own started (by kernel_rfl) Tryz.func6
    (witness_row_at (enc := enc) (C := Tryz.checked) false (laidWorld os) #[.slice none 0 0, .slice none 0 0] rfl (by kernel_rfl) (by kernel_rfl) (by kernel_rfl)
      (OpenSpec.preRow_of_cond 8 hx (by kernel_rfl) (fun k hk => by cases hk) (by kernel_rfl) (laid_met os))) ?_
  intro W base args ds gs before hval hW _ _ _ hL _ _
  exact contract H enc W base args ds gs before hval hW hL
theorem said : Rows.TopBatchSaid :=
  OpenClaim.holds_of_cond 6 Tryz.f6 rfl rfl rfl rfl rfl rfl rfl ⟨rfl, rfl, rfl, rfl, rfl⟩ rfl rfl rfl rfl rfl (by kernel_rfl) Tryz.func6 (joined)
    (of_decide_eq_true (by kernel_rfl)) (by unfold Func.isWrapper; first | (rw [if_pos (by decide +kernel)]; kernel_rfl) | (rw [if_neg (by decide +kernel)]; exact ⟨rfl, rfl⟩))
    (fun os started H enc _ F => by rw [OpenClaim.pre_eq_preRow]; exact lifted os started H enc F)
theorem plain (f : FuncId) (fn : Func) (hf : Tryz.pinned.checked.prog.funcNamed "geofence/geofencetop.TopBatch" = some f) (hfn : Tryz.pinned.checked.prog.funcs[f]? = some fn) :
    false = Tryz.pinned.checked.prog.looks [] ∧ ∀ (j : Nat) t, fn.params[j]? = some t → Tryz.pinned.checked.prog.wantsStandIn t = false := by
  obtain rfl : f = 6 := Option.some.inj ((show Tryz.prog.funcNamed "geofence/geofencetop.TopBatch" = some 6 by kernel_rfl).symm.trans hf) |>.symm
  obtain rfl : fn = Tryz.f6 := (Option.some.inj (Tryz.func6.symm.trans hfn)).symm
  refine ⟨by kernel_rfl, fun j t ht => ?_⟩
  rw [Tryz.params6] at ht
  have hm := Array.mem_of_getElem? ht
  simp at hm
  rcases hm with rfl | rfl
  · exact (show Tryz.prog.wantsStandIn 26 = false by kernel_rfl)
  · exact (show Tryz.prog.wantsStandIn 30 = false by kernel_rfl)
theorem card : Rows.TopBatchCardSaid :=
  Claim7.holds_tied_plain_at .later [] _ _ _ _ said (fun _ h => by cases h) (by kernel_rfl) (fun _ h => by cases h) topBatch_row_tie rfl ⟨rfl, rfl⟩ (Zin) rfl plain (by kernel_rfl)
#print axioms card
end Go.Proofs.YtjdiilkljgljkaaGreatDoor.topBatch
