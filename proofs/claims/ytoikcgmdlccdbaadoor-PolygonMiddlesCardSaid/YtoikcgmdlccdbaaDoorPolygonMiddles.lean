/- PolygonMiddles: for every input the law returns true, and each argument reads afterwards as it read before; the package variable that the row lists holds what it lists. -/
import Derived.Test.YtoikcgmdlccdbaaDoorCards
import Derived.Test.YtoikcgmdlccdbaaDoorTie
import Derived.Test.YtoikcgmdlccdbaaDoorLaw14
import Derived.Test.YtoikcgmdlccdbaaDoorPolyR
import Derived.Test.YtoikcgmdlccdbaaDoorPolyP
import Derived.Test.YtoikcgmdlccdbaaDoorHalf
import Derived.Test.YtoikcgmdlccdbaaDoorRegI
import Derived.Test.YtoikcgmdlccdbaaDoorRegM
import Derived.Test.YtoikcgmdlccdbaaDoorPts
import Derived.Test.YtoikcgmdlccdbaaDoorMain
import Derived.Test.YtoikcgmdlccdbaaDoorOpenPt
import Derived.WalkKit
import Derived.ProofKit
import Derived.OpenShut
import Derived.Below
import Derived.Deep.DeepHandedRow
import Derived.Lib.LaidTab
namespace Go.Proofs.YtoikcgmdlccdbaaDoor.polygonMiddles
open Go.ChangeShapes Go.WideShapes Go.ChangeAt Go.RowKit Wd
set_option linter.unusedVariables false
set_option linter.unusedSimpArgs false

theorem own : ownKnob Tryd.prog.godebug = none := by kernel_rfl
theorem laidOut : laidOutB Tryd.prog = true := by kernel_rfl

set_option maxRecDepth 100000 in
set_option maxHeartbeats 4000000 in
theorem walk {w : World} (A0 : Option Addr) (n0 c0 : Nat) (f0 g0 : Nat → Int) (s0 : Pts w A0 n0 c0 f0 g0) (hT : TabM w) :
    Calls Tryd.prog 18 #[.slice A0 n0 c0] w fun e w' => e = .returned (.bool true) ∧ Below w.heap.size w w' := by
  have HB0 := Lib.hid (Below.refl w.heap.size w)
  have FT := Lib.hid hT; clear hT
  have FX := Lib.hid s0; have hm0 := Nat.le_trans s0.cap s0.max; clear s0
  by_cases h20 : 20 < n0
  · have h21 : (20 : Int) < n0 := by omega
    go_enter Tryd.func18, Tryd.ntmps18
    go_wp2_with fail
    refine (alive14 _ FT.out).mono ?_
    rintro e w1 ⟨rfl, B⟩
    have HB1 := Lib.hid (HB0.out.trans (B.mono HB0.out.size))
    have FT_1 := Lib.hid (FT.out.below B (Nat.le_refl _))
    have FX_1 := Lib.hid (FX.out.below B (Nat.le_refl _))
    clear B  HB0 FT FX
    go_wp2_with fail
    go_ret
    exact ⟨rfl, HB1.out⟩
  have h21 : ¬ ((20 : Int) < n0) := by omega
  by_cases h0 : n0 = 0
  · subst h0
    have ht : ∀ (w : World) (A : Option Addr) (c : Nat), c ≤ maxLen → Pts w A 0 c f0 g0 := fun w A c h => ⟨Nat.zero_le _, h, (fun i hi => absurd hi (Nat.not_lt_zero _)), fun h => absurd h (Nat.lt_irrefl _)⟩
    have hv : validP f0 g0 0 = false := validP_out (by decide)
    have HT0 := Lib.hid ht; have HV0 := Lib.hid hv; clear ht hv
    cases A0 with
    | none =>
      go_enter Tryd.func18, Tryd.ntmps18
      go_wp2_with fail
      refine (clone_nil 0 c0 _).mono ?_
      rintro e w1 ⟨rfl, B⟩
      have HB1 := Lib.hid (HB0.out.trans (B.mono HB0.out.size))
      have FT_1 := Lib.hid (FT.out.below B (Nat.le_refl _))
      have FX_1 := Lib.hid (FX.out.below B (Nat.le_refl _))
      clear B  HB0 FT FX
      go_wp2_with fail
      refine wp_loop_rounds 1 ?_
      rw [rounds_succ]
      go_wp2_with fail
      refine (ref14_Valid _ 0 _ f0 g0 _ (HT0.out _ _ _ (Nat.zero_le _))).mono ?_
      rintro e w2 ⟨rfl, B⟩
      have HB2 := Lib.hid (HB1.out.trans (B.mono HB1.out.size))
      have FT_2 := Lib.hid (FT_1.out.below B (Nat.le_refl _))
      clear B  HB1 FT_1
      rw [HV0.out]
      go_wp2_with fail
      refine (alive14 _ FT_2.out).mono ?_
      rintro e w3 ⟨rfl, B⟩
      have HB3 := Lib.hid (HB2.out.trans (B.mono HB2.out.size))
      have FT_3 := Lib.hid (FT_2.out.below B (Nat.le_refl _))
      clear B  HB2 FT_2
      go_wp2_with fail
      go_ret
      exact ⟨rfl, HB3.out⟩
    | some ad =>
      go_enter Tryd.func18, Tryd.ntmps18
      go_wp2_with fail
      refine (clone_row ad 0 c0 f0 g0 _ FX.out (by omega)).mono ?_
      rintro e w1 ⟨⟨g1, c1, cur, rfl, hg1, hBx, hc4, hcm, hcs, htk⟩, B⟩
      have HB1 := Lib.hid (HB0.out.trans (B.mono HB0.out.size))
      have FT_1 := Lib.hid (FT.out.below B (Nat.le_refl _))
      have FX_1 := Lib.hid (FX.out.below B (Nat.le_refl _))
      clear B  HB0 FT FX
      have HCM := Lib.hid hcm; clear hg1 hBx hc4 hcm hcs htk
      go_wp2_with fail
      refine wp_loop_rounds 1 ?_
      rw [rounds_succ]
      go_wp2_with fail
      refine (ref14_Valid _ 0 _ f0 g0 _ (HT0.out _ _ _ HCM.out)).mono ?_
      rintro e w2 ⟨rfl, B⟩
      have HB2 := Lib.hid (HB1.out.trans (B.mono HB1.out.size))
      have FT_2 := Lib.hid (FT_1.out.below B (Nat.le_refl _))
      clear B  HB1 FT_1
      rw [HV0.out]
      go_wp2_with fail
      refine (alive14 _ FT_2.out).mono ?_
      rintro e w3 ⟨rfl, B⟩
      have HB3 := Lib.hid (HB2.out.trans (B.mono HB2.out.size))
      have FT_3 := Lib.hid (FT_2.out.below B (Nat.le_refl _))
      clear B  HB2 FT_2
      go_wp2_with fail
      go_ret
      exact ⟨rfl, HB3.out⟩
  obtain ⟨b, off, rfl⟩ := FX.out.some (by omega)
  have HE := Lib.hid (show ∀ i, i < n0 → IsI (2 * (f0 i / 2)) ∧ IsI (2 * (g0 i / 2)) from fun i hi => ⟨even_isI (FX.out.isi i hi).1, even_isI (FX.out.isi i hi).2⟩)
  have HA := Lib.hid (show ∀ i, i < n0 → bits .andNot .i64 (f0 i) 1 = 2 * (f0 i / 2) ∧ bits .andNot .i64 (g0 i) 1 = 2 * (g0 i / 2) from fun i hi => ⟨andNot1_ (FX.out.isi i hi).1, andNot1_ (FX.out.isi i hi).2⟩)
  have hnz : ¬ (n0 = 0) := by omega
  go_enter Tryd.func18, Tryd.ntmps18
  go_wp2_with fail
  refine (clone_row _ n0 c0 f0 g0 _ FX.out (by omega)).mono ?_
  rintro e w1 ⟨⟨g1, c1, cur, rfl, hg1, hBx, hc4, hcm, hcs, htk⟩, B⟩
  have HB1 := Lib.hid B; have HBX := Lib.hid hBx; have HG1 := Lib.hid hg1; have HRW := Lib.hid (rowP_of htk); have HCS := Lib.hid hcs; clear B hBx hg1 htk hcs FX HB0
  go_wp2_with fail
  go_loopw [17] (fun i wr => ∃ k : Nat, k ≤ n0 ∧ i = .int .i64 (k : Int) ∧ (∃ cur, Bx wr g1 cur 28 ∧ RowP cur n0 (fun i => if i < k then 2 * (f0 i / 2) else f0 i) (fun i => if i < k then 2 * (g0 i / 2) else g0 i)) ∧ Below w.heap.size w wr) (fun i _ => n0 - (intOf i).toNat)
  case atStart => exact ⟨0, Nat.zero_le _, rfl, ⟨cur, HBX.out, fun i hi => by simpa using HRW.out i hi⟩, HB1.out⟩
  case round =>
    obtain ⟨k, hk, rfl, ⟨cur2, i1, i2⟩, hb⟩ := hrel
    have HI1 := Lib.hid i1; have HI2 := Lib.hid i2; have HBR := Lib.hid hb; clear i1 i2 hb
    by_cases hlt : k < n0
    · have hms := Lib.hid (meas_ hlt)
      have hpos := Lib.hid (show (.int .i64 ((k : Int) + 1) : Value) = .int .i64 ((k + 1 : Nat) : Int) from by simp)
      obtain ⟨w1_, w3_⟩ := wrapN1 (m := k) (by omega)
      have hcx : cur2[k * 2]? = some (.int .i64 (f0 k)) := by have := (HI2.out k hlt).1; simpa using this
      have hcy : cur2[k * 2 + 1]? = some (.int .i64 (g0 k)) := by have := (HI2.out k hlt).2; simpa using this
      have HLX := Lib.hid (Array.getElem?_eq_some_iff.1 hcx).1; have HLY := Lib.hid (Array.getElem?_eq_some_iff.1 hcy).1
      have HCX := Lib.hid hcx; have HCY := Lib.hid hcy; clear hcx hcy
      obtain ⟨ax_, ay_⟩ := HA.out k hlt
      have HAX := Lib.hid ax_; have HAY := Lib.hid ay_; clear ax_ ay_
      go_upto_region 7 with (fail)
      have MD := Lib.hid (show Bx wr.drew (g1) cur2 28 from bx_dr HI1.out)
      refine wp_region_held_drew (S := fun _ => True) (by kernel_rfl) trivial (fun _ => ?_)
      refine wpAnyH_genM w.heap.size (g1) 28 cur2 [⟨18, (k * 2), [.int .i64 (2 * (f0 k / 2))]⟩, ⟨21, (k * 2 + 1), [.int .i64 (2 * (g0 k / 2))]⟩] [⟨0, 20, .slice (some ⟨g1, 0, none⟩) n0 c1⟩, ⟨1, 21, .int .i64 (k : Int)⟩, ⟨2, 22, .slice (some ⟨g1, 0, none⟩) n0 c1⟩, ⟨3, 23, .int .i64 (k : Int)⟩, ⟨4, 24, .slice (some ⟨g1, 0, none⟩) n0 c1⟩, ⟨5, 25, .int .i64 (k : Int)⟩, ⟨6, 26, .pointer (some ⟨g1, k * 2, none⟩)⟩, ⟨7, 27, .pointer (some ⟨g1, k * 2, none⟩)⟩, ⟨8, 28, .int .i64 (f0 k)⟩, ⟨9, 29, .int .i64 (2 * (f0 k / 2))⟩, ⟨10, 30, .slice (some ⟨g1, 0, none⟩) n0 c1⟩, ⟨11, 31, .int .i64 (k : Int)⟩, ⟨12, 32, .pointer (some ⟨g1, k * 2, none⟩)⟩, ⟨13, 33, .pointer (some ⟨g1, k * 2 + 1, none⟩)⟩, ⟨14, 34, .int .i64 (g0 k)⟩, ⟨15, 35, .int .i64 (2 * (g0 k / 2))⟩, ⟨16, 36, .pointer (some ⟨g1, k * 2, none⟩)⟩, ⟨17, 37, .pointer (some ⟨g1, k * 2, none⟩)⟩, ⟨19, 38, .pointer (some ⟨g1, k * 2, none⟩)⟩, ⟨20, 39, .pointer (some ⟨g1, k * 2 + 1, none⟩)⟩] (by kernel_rfl) (fun _ => trivial) HG1.out MD.out ?_ ?_ ?_
      · refine ⟨?_, ?_, ?_, ?_, ?_, ?_, ?_, ?_, ?_, ?_, ?_, ?_, ?_, ?_, ?_, ?_, ?_, ?_, ?_, ?_, trivial⟩
        · intro a wz K hb ht hd hM hK
          have hbw := Lib.hid (HBR.out.trans ((Below.refl w.heap.size wr).drew.trans hb)); clear hb
          have HK := Lib.hid hK; clear hK
          all_goals (
          have hx3 := (ht 3 rfl).trans rfl
          have es3 : a.tmps.getD 3 undef = _ := getD_of hx3; clear hx3
          clear ht hd
          clear hM
          refine wpOp_step (by simp only [List.getElem?_toArray, List.getElem?_cons_succ, List.getElem?_cons_zero]; rfl) (fun K' hK' => ?_)
          have HK' := Lib.hid hK'; clear hK'
          go_simp
          exact HK'.out _ _ HK.out)
        · intro a wz K hb ht hd hM hK
          have hbw := Lib.hid (HBR.out.trans ((Below.refl w.heap.size wr).drew.trans hb)); clear hb
          have HK := Lib.hid hK; clear hK
          all_goals (
          have hx4 := (ht 4 rfl).trans rfl
          have es4 : a.tmps.getD 4 undef = _ := getD_of hx4; clear hx4
          clear ht hd
          clear hM
          refine wpOp_step (by simp only [List.getElem?_toArray, List.getElem?_cons_succ, List.getElem?_cons_zero]; rfl) (fun K' hK' => ?_)
          have HK' := Lib.hid hK'; clear hK'
          go_simp
          exact HK'.out _ _ HK.out)
        · intro a wz K hb ht hd hM hK
          have hbw := Lib.hid (HBR.out.trans ((Below.refl w.heap.size wr).drew.trans hb)); clear hb
          have HK := Lib.hid hK; clear hK
          all_goals (
          have hx3 := (ht 3 rfl).trans rfl
          have es3 : a.tmps.getD 3 undef = _ := getD_of hx3; clear hx3
          clear ht hd
          clear hM
          refine wpOp_step (by simp only [List.getElem?_toArray, List.getElem?_cons_succ, List.getElem?_cons_zero]; rfl) (fun K' hK' => ?_)
          have HK' := Lib.hid hK'; clear hK'
          go_simp
          exact HK'.out _ _ HK.out)
        · intro a wz K hb ht hd hM hK
          have hbw := Lib.hid (HBR.out.trans ((Below.refl w.heap.size wr).drew.trans hb)); clear hb
          have HK := Lib.hid hK; clear hK
          all_goals (
          have hx4 := (ht 4 rfl).trans rfl
          have es4 : a.tmps.getD 4 undef = _ := getD_of hx4; clear hx4
          clear ht hd
          clear hM
          refine wpOp_step (by simp only [List.getElem?_toArray, List.getElem?_cons_succ, List.getElem?_cons_zero]; rfl) (fun K' hK' => ?_)
          have HK' := Lib.hid hK'; clear hK'
          go_simp
          exact HK'.out _ _ HK.out)
        · intro a wz K hb ht hd hM hK
          have hbw := Lib.hid (HBR.out.trans ((Below.refl w.heap.size wr).drew.trans hb)); clear hb
          have HK := Lib.hid hK; clear hK
          all_goals (
          have hx3 := (ht 3 rfl).trans rfl
          have es3 : a.tmps.getD 3 undef = _ := getD_of hx3; clear hx3
          clear ht hd
          clear hM
          refine wpOp_step (by simp only [List.getElem?_toArray, List.getElem?_cons_succ, List.getElem?_cons_zero]; rfl) (fun K' hK' => ?_)
          have HK' := Lib.hid hK'; clear hK'
          go_simp
          exact HK'.out _ _ HK.out)
        · intro a wz K hb ht hd hM hK
          have hbw := Lib.hid (HBR.out.trans ((Below.refl w.heap.size wr).drew.trans hb)); clear hb
          have HK := Lib.hid hK; clear hK
          all_goals (
          have hx4 := (ht 4 rfl).trans rfl
          have es4 : a.tmps.getD 4 undef = _ := getD_of hx4; clear hx4
          clear ht hd
          clear hM
          refine wpOp_step (by simp only [List.getElem?_toArray, List.getElem?_cons_succ, List.getElem?_cons_zero]; rfl) (fun K' hK' => ?_)
          have HK' := Lib.hid hK'; clear hK'
          go_simp
          exact HK'.out _ _ HK.out)
        · intro a wz K hb ht hd hM hK
          have hbw := Lib.hid (HBR.out.trans ((Below.refl w.heap.size wr).drew.trans hb)); clear hb
          have HK := Lib.hid hK; clear hK
          all_goals (
          have hx24 : a.tmps[24]? = some (.slice (some ⟨g1, 0, none⟩) n0 c1) := hd 4 _ rfl (by kernel_rfl)
          have es24 : a.tmps.getD 24 undef = _ := getD_of hx24; clear hx24
          have hx25 : a.tmps[25]? = some (.int .i64 (k : Int)) := hd 5 _ rfl (by kernel_rfl)
          have es25 : a.tmps.getD 25 undef = _ := getD_of hx25; clear hx25
          clear ht hd
          clear hM
          refine wpOp_step (by simp only [List.getElem?_toArray, List.getElem?_cons_succ, List.getElem?_cons_zero]; rfl) (fun K' hK' => ?_)
          have HK' := Lib.hid hK'; clear hK'
          go_simp
          exact HK'.out _ _ HK.out)
        · intro a wz K hb ht hd hM hK
          have hbw := Lib.hid (HBR.out.trans ((Below.refl w.heap.size wr).drew.trans hb)); clear hb
          have HK := Lib.hid hK; clear hK
          all_goals (
          have hx26 : a.tmps[26]? = some (.pointer (some ⟨g1, k * 2, none⟩)) := hd 6 _ rfl (by kernel_rfl)
          have es26 : a.tmps.getD 26 undef = _ := getD_of hx26; clear hx26
          clear ht hd
          clear hM
          refine wpOp_step (by simp only [List.getElem?_toArray, List.getElem?_cons_succ, List.getElem?_cons_zero]; rfl) (fun K' hK' => ?_)
          have HK' := Lib.hid hK'; clear hK'
          go_simp
          exact HK'.out _ _ HK.out)
        · intro a wz K hb ht hd hM hK
          have hbw := Lib.hid (HBR.out.trans ((Below.refl w.heap.size wr).drew.trans hb)); clear hb
          have HK := Lib.hid hK; clear hK
          all_goals (
          have hx27 : a.tmps[27]? = some (.pointer (some ⟨g1, k * 2, none⟩)) := hd 7 _ rfl (by kernel_rfl)
          have es27 : a.tmps.getD 27 undef = _ := getD_of hx27; clear hx27
          clear ht hd
          have HM := Lib.hid (hM (fun s0 h => by cases h; kernel_rfl))
          clear hM
          have zc0 := HM.out.cell (k * 2) (v := .int .i64 (f0 k)) HCX.out
          refine wpOp_step (by simp only [List.getElem?_toArray, List.getElem?_cons_succ, List.getElem?_cons_zero]; rfl) (fun K' hK' => ?_)
          have HK' := Lib.hid hK'; clear hK'
          go_simp
          exact HK'.out _ _ HK.out)
        · intro a wz K hb ht hd hM hK
          have hbw := Lib.hid (HBR.out.trans ((Below.refl w.heap.size wr).drew.trans hb)); clear hb
          have HK := Lib.hid hK; clear hK
          all_goals (
          have hx28 : a.tmps[28]? = some (.int .i64 (f0 k)) := hd 8 _ rfl (by kernel_rfl)
          have es28 : a.tmps.getD 28 undef = _ := getD_of hx28; clear hx28
          clear ht hd
          clear hM
          have e1 := HAX.out
          refine wpOp_step (by simp only [List.getElem?_toArray, List.getElem?_cons_succ, List.getElem?_cons_zero]; rfl) (fun K' hK' => ?_)
          have HK' := Lib.hid hK'; clear hK'
          go_simp
          exact HK'.out _ _ HK.out)
        · intro a wz K hb ht hd hM hK
          have hbw := Lib.hid (HBR.out.trans ((Below.refl w.heap.size wr).drew.trans hb)); clear hb
          have HK := Lib.hid hK; clear hK
          all_goals (
          have hx3 := (ht 3 rfl).trans rfl
          have es3 : a.tmps.getD 3 undef = _ := getD_of hx3; clear hx3
          clear ht hd
          clear hM
          refine wpOp_step (by simp only [List.getElem?_toArray, List.getElem?_cons_succ, List.getElem?_cons_zero]; rfl) (fun K' hK' => ?_)
          have HK' := Lib.hid hK'; clear hK'
          go_simp
          exact HK'.out _ _ HK.out)
        · intro a wz K hb ht hd hM hK
          have hbw := Lib.hid (HBR.out.trans ((Below.refl w.heap.size wr).drew.trans hb)); clear hb
          have HK := Lib.hid hK; clear hK
          all_goals (
          have hx4 := (ht 4 rfl).trans rfl
          have es4 : a.tmps.getD 4 undef = _ := getD_of hx4; clear hx4
          clear ht hd
          clear hM
          refine wpOp_step (by simp only [List.getElem?_toArray, List.getElem?_cons_succ, List.getElem?_cons_zero]; rfl) (fun K' hK' => ?_)
          have HK' := Lib.hid hK'; clear hK'
          go_simp
          exact HK'.out _ _ HK.out)
        · intro a wz K hb ht hd hM hK
          have hbw := Lib.hid (HBR.out.trans ((Below.refl w.heap.size wr).drew.trans hb)); clear hb
          have HK := Lib.hid hK; clear hK
          all_goals (
          have hx30 : a.tmps[30]? = some (.slice (some ⟨g1, 0, none⟩) n0 c1) := hd 10 _ rfl (by kernel_rfl)
          have es30 : a.tmps.getD 30 undef = _ := getD_of hx30; clear hx30
          have hx31 : a.tmps[31]? = some (.int .i64 (k : Int)) := hd 11 _ rfl (by kernel_rfl)
          have es31 : a.tmps.getD 31 undef = _ := getD_of hx31; clear hx31
          clear ht hd
          clear hM
          refine wpOp_step (by simp only [List.getElem?_toArray, List.getElem?_cons_succ, List.getElem?_cons_zero]; rfl) (fun K' hK' => ?_)
          have HK' := Lib.hid hK'; clear hK'
          go_simp
          exact HK'.out _ _ HK.out)
        · intro a wz K hb ht hd hM hK
          have hbw := Lib.hid (HBR.out.trans ((Below.refl w.heap.size wr).drew.trans hb)); clear hb
          have HK := Lib.hid hK; clear hK
          all_goals (
          have hx32 : a.tmps[32]? = some (.pointer (some ⟨g1, k * 2, none⟩)) := hd 12 _ rfl (by kernel_rfl)
          have es32 : a.tmps.getD 32 undef = _ := getD_of hx32; clear hx32
          clear ht hd
          clear hM
          refine wpOp_step (by simp only [List.getElem?_toArray, List.getElem?_cons_succ, List.getElem?_cons_zero]; rfl) (fun K' hK' => ?_)
          have HK' := Lib.hid hK'; clear hK'
          go_simp
          exact HK'.out _ _ HK.out)
        · intro a wz K hb ht hd hM hK
          have hbw := Lib.hid (HBR.out.trans ((Below.refl w.heap.size wr).drew.trans hb)); clear hb
          have HK := Lib.hid hK; clear hK
          all_goals (
          have hx33 : a.tmps[33]? = some (.pointer (some ⟨g1, k * 2 + 1, none⟩)) := hd 13 _ rfl (by kernel_rfl)
          have es33 : a.tmps.getD 33 undef = _ := getD_of hx33; clear hx33
          clear ht hd
          have HM := Lib.hid (hM (fun s0 h => by cases h; kernel_rfl))
          clear hM
          have zc0 := HM.out.cell (k * 2 + 1) (v := .int .i64 (g0 k)) HCY.out
          refine wpOp_step (by simp only [List.getElem?_toArray, List.getElem?_cons_succ, List.getElem?_cons_zero]; rfl) (fun K' hK' => ?_)
          have HK' := Lib.hid hK'; clear hK'
          go_simp
          exact HK'.out _ _ HK.out)
        · intro a wz K hb ht hd hM hK
          have hbw := Lib.hid (HBR.out.trans ((Below.refl w.heap.size wr).drew.trans hb)); clear hb
          have HK := Lib.hid hK; clear hK
          all_goals (
          have hx34 : a.tmps[34]? = some (.int .i64 (g0 k)) := hd 14 _ rfl (by kernel_rfl)
          have es34 : a.tmps.getD 34 undef = _ := getD_of hx34; clear hx34
          clear ht hd
          clear hM
          have e1 := HAY.out
          refine wpOp_step (by simp only [List.getElem?_toArray, List.getElem?_cons_succ, List.getElem?_cons_zero]; rfl) (fun K' hK' => ?_)
          have HK' := Lib.hid hK'; clear hK'
          go_simp
          exact HK'.out _ _ HK.out)
        · intro a wz K hb ht hd hM hK
          have hbw := Lib.hid (HBR.out.trans ((Below.refl w.heap.size wr).drew.trans hb)); clear hb
          have HK := Lib.hid hK; clear hK
          all_goals (
          have hx20 : a.tmps[20]? = some (.slice (some ⟨g1, 0, none⟩) n0 c1) := hd 0 _ rfl (by kernel_rfl)
          have es20 : a.tmps.getD 20 undef = _ := getD_of hx20; clear hx20
          have hx21 : a.tmps[21]? = some (.int .i64 (k : Int)) := hd 1 _ rfl (by kernel_rfl)
          have es21 : a.tmps.getD 21 undef = _ := getD_of hx21; clear hx21
          clear ht hd
          clear hM
          refine wpOp_step (by simp only [List.getElem?_toArray, List.getElem?_cons_succ, List.getElem?_cons_zero]; rfl) (fun K' hK' => ?_)
          have HK' := Lib.hid hK'; clear hK'
          go_simp
          exact HK'.out _ _ HK.out)
        · intro a wz K hb ht hd hM hK
          have hbw := Lib.hid (HBR.out.trans ((Below.refl w.heap.size wr).drew.trans hb)); clear hb
          have HK := Lib.hid hK; clear hK
          all_goals (
          have hx36 : a.tmps[36]? = some (.pointer (some ⟨g1, k * 2, none⟩)) := hd 16 _ rfl (by kernel_rfl)
          have es36 : a.tmps.getD 36 undef = _ := getD_of hx36; clear hx36
          clear ht hd
          clear hM
          refine wpOp_step (by simp only [List.getElem?_toArray, List.getElem?_cons_succ, List.getElem?_cons_zero]; rfl) (fun K' hK' => ?_)
          have HK' := Lib.hid hK'; clear hK'
          go_simp
          exact HK'.out _ _ HK.out)
        · intro a wz K hb ht hd hM hK
          have hbw := Lib.hid (HBR.out.trans ((Below.refl w.heap.size wr).drew.trans hb)); clear hb
          have HK := Lib.hid hK; clear hK
          all_goals (
          have hx22 : a.tmps[22]? = some (.slice (some ⟨g1, 0, none⟩) n0 c1) := hd 2 _ rfl (by kernel_rfl)
          have es22 : a.tmps.getD 22 undef = _ := getD_of hx22; clear hx22
          have hx23 : a.tmps[23]? = some (.int .i64 (k : Int)) := hd 3 _ rfl (by kernel_rfl)
          have es23 : a.tmps.getD 23 undef = _ := getD_of hx23; clear hx23
          clear ht hd
          clear hM
          refine wpOp_step (by simp only [List.getElem?_toArray, List.getElem?_cons_succ, List.getElem?_cons_zero]; rfl) (fun K' hK' => ?_)
          have HK' := Lib.hid hK'; clear hK'
          go_simp
          exact HK'.out _ _ HK.out)
        · intro a wz K hb ht hd hM hK
          have hbw := Lib.hid (HBR.out.trans ((Below.refl w.heap.size wr).drew.trans hb)); clear hb
          have HK := Lib.hid hK; clear hK
          all_goals (
          have hx38 : a.tmps[38]? = some (.pointer (some ⟨g1, k * 2, none⟩)) := hd 18 _ rfl (by kernel_rfl)
          have es38 : a.tmps.getD 38 undef = _ := getD_of hx38; clear hx38
          clear ht hd
          clear hM
          refine wpOp_step (by simp only [List.getElem?_toArray, List.getElem?_cons_succ, List.getElem?_cons_zero]; rfl) (fun K' hK' => ?_)
          have HK' := Lib.hid hK'; clear hK'
          go_simp
          exact HK'.out _ _ HK.out)
      · refine ⟨?_, ?_, trivial⟩
        · intro a wz cs K hb ht hd hbx hsz hK
          have HK := Lib.hid hK; clear hK hb
          skip
          all_goals (
          have hx37 : a.tmps[37]? = some (.pointer (some ⟨g1, k * 2, none⟩)) := hd 17 _ rfl (by kernel_rfl)
          have es37 : a.tmps.getD 37 undef = _ := getD_of hx37; clear hx37
          have hx29 : a.tmps[29]? = some (.int .i64 (2 * (f0 k / 2))) := hd 9 _ rfl (by kernel_rfl)
          have es29 : a.tmps.getD 29 undef = _ := getD_of hx29; clear hx29
          clear ht hd
          obtain ⟨zv0, zc0⟩ := hbx.some (i := (k * 2)) (by rw [hsz]; have := HLX.out; omega); have zf0 := hbx.free ((k * 2))
          have zl := hbx.lt; clear hbx hsz
          refine wpOp_step (by simp only [List.getElem?_toArray, List.getElem?_cons_succ, List.getElem?_cons_zero]; rfl) (fun K' hK' => ?_)
          have HK' := Lib.hid hK'; clear hK'
          go_simp
          exact HK'.out _ _ HK.out)
        · intro a wz cs K hb ht hd hbx hsz hK
          have HK := Lib.hid hK; clear hK hb
          skip
          all_goals (
          have hx39 : a.tmps[39]? = some (.pointer (some ⟨g1, k * 2 + 1, none⟩)) := hd 19 _ rfl (by kernel_rfl)
          have es39 : a.tmps.getD 39 undef = _ := getD_of hx39; clear hx39
          have hx35 : a.tmps[35]? = some (.int .i64 (2 * (g0 k / 2))) := hd 15 _ rfl (by kernel_rfl)
          have es35 : a.tmps.getD 35 undef = _ := getD_of hx35; clear hx35
          clear ht hd
          obtain ⟨zv0, zc0⟩ := hbx.some (i := (k * 2 + 1)) (by rw [hsz]; have := HLY.out; omega); have zf0 := hbx.free ((k * 2 + 1))
          have zl := hbx.lt; clear hbx hsz
          refine wpOp_step (by simp only [List.getElem?_toArray, List.getElem?_cons_succ, List.getElem?_cons_zero]; rfl) (fun K' hK' => ?_)
          have HK' := Lib.hid hK'; clear hK'
          go_simp
          exact HK'.out _ _ HK.out)
      intro w41 hb hx
      have C41 := Lib.hid (HBR.out.trans ((Below.refl w.heap.size wr).drew.trans hb)); clear hb
      have M41 : Hid (Bx w41 (g1) ((cur2.setIfInBounds (k * 2) (.int .i64 (2 * (f0 k / 2)))).setIfInBounds (k * 2 + 1) (.int .i64 (2 * (g0 k / 2)))) 28) := Lib.hid hx; clear hx HI1 MD HBR
      simp only [List.foldl_cons, List.foldl_nil, Act.put, List.setIfInBounds_toArray, List.set_cons_zero, List.set_cons_succ]
      go_wp2_with fail
      go_roundw
      case rel => exact ⟨k + 1, hlt, hpos.out, ⟨_, M41.out, fun i hi => by
        have := rowP_set HI2.out hlt (2 * (f0 k / 2)) (2 * (g0 k / 2)) i hi
        refine ⟨this.1.trans ?_, this.2.trans ?_⟩ <;> (congr 2; by_cases e : i = k <;> simp [e] <;> (try (split <;> split <;> omega)))⟩, C41.out⟩
      case measure => exact hms.out
    · have hkn : k = n0 := by omega
      have hrw : RowP cur2 n0 (fun i => 2 * (f0 i / 2)) (fun i => 2 * (g0 i / 2)) := fun i hi => by have := HI2.out i hi; simpa [hkn, hi] using this
      have HXP := Lib.hid (bx_rowP HI1.out hrw hc4 hcm HE.out)
      clear hrw HI1 HI2 HBX HRW HCS HA HB1
      have hkn2 : ¬ (k < n0) := hlt
      cases hv : validP (fun i => 2 * (f0 i / 2)) (fun i => 2 * (g0 i / 2)) n0
      · have HV := Lib.hid hv; clear hv
        have FTq := Lib.hid (FT.out.below HBR.out (Nat.le_refl _))
        go_wp2_with fail
        refine (ref14_Valid _ n0 _ _ _ _ HXP.out).mono ?_
        rintro e w61 ⟨rfl, B⟩
        have HB61 := Lib.hid (HBR.out.trans (B.mono HBR.out.size))
        have FX_61 := Lib.hid (HXP.out.below B (Nat.le_refl _))
        have FT_61 := Lib.hid (FTq.out.below B (Nat.le_refl _))
        clear B  HBR HXP FTq
        rw [HV.out]
        go_wp2_with fail
        refine (alive14 _ FT_61.out).mono ?_
        rintro e w62 ⟨rfl, B⟩
        have HB62 := Lib.hid (HB61.out.trans (B.mono HB61.out.size))
        have FX_62 := Lib.hid (FX_61.out.below B (Nat.le_refl _))
        have FT_62 := Lib.hid (FT_61.out.below B (Nat.le_refl _))
        clear B  HB61 FX_61 FT_61
        go_wp2_with fail
        go_ret
        exact ⟨rfl, HB62.out⟩
      have HV := Lib.hid hv; clear hv
      have FTq := Lib.hid (FT.out.below HBR.out (Nat.le_refl _))
      go_wp2_with fail
      refine (ref14_Valid _ n0 _ _ _ _ HXP.out).mono ?_
      rintro e w61 ⟨rfl, B⟩
      have HB61 := Lib.hid (HBR.out.trans (B.mono HBR.out.size))
      have FX_61 := Lib.hid (HXP.out.below B (Nat.le_refl _))
      have FT_61 := Lib.hid (FTq.out.below B (Nat.le_refl _))
      clear B  HBR HXP FTq
      rw [HV.out]
      go_wp2_with fail
      have RX := FX_61; have RT := FT_61; have RB := HB61
      go_loopw [48] (fun i wr => ∃ k : Nat, k ≤ n0 ∧ i = .int .i64 (k : Int) ∧ Below w61.heap.size w61 wr) (fun i _ => n0 - (intOf i).toNat)
      case atStart => exact ⟨0, Nat.zero_le _, rfl, Below.refl _ _⟩
      case round =>
        rename_i wa
        obtain ⟨i, hi_, rfl, hb⟩ := hrel
        have HBI := Lib.hid hb; clear hb
        by_cases hlt2 : i < n0
        rotate_left
        · have hni : ¬ ((i : Int) < n0) := by omega
          have FTz := Lib.hid (RT.out.below HBI.out (Nat.le_refl _)); have HBz := Lib.hid (RB.out.trans (HBI.out.mono RB.out.size))
          go_wp2_with fail
          refine (alive14 _ FTz.out).mono ?_
          rintro e w90 ⟨rfl, B⟩
          have HB90 := Lib.hid (HBz.out.trans (B.mono HBz.out.size))
          go_wp2_with fail
          go_ret
          exact ⟨rfl, HB90.out⟩
        have hms := Lib.hid (meas_ hlt2)
        have hpos := Lib.hid (show (.int .i64 ((i : Int) + 1) : Value) = .int .i64 ((i + 1 : Nat) : Int) from by simp)
        obtain ⟨v1_, v3_⟩ := wrapN1 (m := i) (by omega)
        go_wp2_with fail
        go_loopw [52] (fun j wr2 => ∃ q : Nat, q ≤ i ∧ j = .int .i64 (q : Int) ∧ Below w61.heap.size w61 wr2) (fun j _ => i - (intOf j).toNat)
        case atStart => exact ⟨0, Nat.zero_le _, rfl, HBI.out⟩
        case round =>
          rename_i wb
          obtain ⟨q, hq, rfl, hb2⟩ := hrel
          have HBJ := Lib.hid hb2; clear hb2
          by_cases hqi : q < i
          rotate_left
          · have hni : ¬ ((q : Int) < i) := by omega
            go_wp2_with fail
            go_roundw
            case rel => exact ⟨i + 1, hlt2, hpos.out, HBJ.out⟩
            case measure => exact hms.out
          have hqn : q < n0 := by omega
          have hms2 := Lib.hid (meas_ hqi)
          have hpos2 := Lib.hid (show (.int .i64 ((q : Int) + 1) : Value) = .int .i64 ((q + 1 : Nat) : Int) from by simp)
          obtain ⟨u1_, u3_⟩ := wrapN1 (m := q) (by omega)
          have u5_ : wrap64 ((n0 : Int) - 1) = (n0 : Int) - 1 := by rw [← IntWalk.i64_left, IntKind.wrap_i64]; omega
          have FXr := Lib.hid (RX.out.below HBJ.out (Nat.le_refl _)); have FTr := Lib.hid (RT.out.below HBJ.out (Nat.le_refl _))
          have FE : Hid (Pt1 wr g1 (i * 2) (2 * (f0 i / 2)) (2 * (g0 i / 2))) := Lib.hid (by have := FXr.out.one hlt2; rw [Nat.zero_add] at this; exact this)
          have FG : Hid (Pt1 wr g1 (q * 2) (2 * (f0 q / 2)) (2 * (g0 q / 2))) := Lib.hid (by have := FXr.out.one hqn; rw [Nat.zero_add] at this; exact this)
          have HS := Lib.hid (Below.refl wr.heap.size wr)
          have HLM := Lib.hid (show locP (fun i => 2 * (f0 i / 2)) (fun i => 2 * (g0 i / 2)) n0 (f0 i / 2 + f0 q / 2) (g0 i / 2 + g0 q / 2) = _ from loc_mid (p := fun i => f0 i / 2) (q := fun i => g0 i / 2) HV.out hlt2 hqi)
          have HIX := Lib.hid (half_w (HE.out i hlt2).1 (HE.out q hqn).1).2.2.2.2.1
          have HIY := Lib.hid (half_w (HE.out i hlt2).2 (HE.out q hqn).2).2.2.2.2.1
          have HE1 := Lib.hid (HE.out i hlt2); have HE2 := Lib.hid (HE.out q hqn)
          rcases (by omega : (i = q + 1) ∨ (i ≠ q + 1 ∧ q = 0 ∧ i = n0 - 1) ∨ (i ≠ q + 1 ∧ q = 0 ∧ i ≠ n0 - 1) ∨ (i ≠ q + 1 ∧ q ≠ 0)) with hc | hc | hc | hc
          · have b1 : ((i : Int) == (q : Int) + 1) = true := by simp; omega
            have HNB := Lib.hid (show nbr n0 i q = true from by unfold nbr; simp; omega)
            clear hc
            go_wp2_with fail
            clear b1
            refine (wpIn_wide (n := 0)).1 ?_
            refine wpIn_region_any (by kernel_rfl) ?_
            change wpAnyIn _ _ _ _ _ _ _ _ _ (World.drew _)
            have RB100 := Lib.hid (below_drew0 wr)
            refine wpAnyIn_tail WideF.wide (fun a b => Below a.heap.size a b) (fun _ => below_rf) (fun _ _ _ h k => below_tr h k) [⟨0, 69, fun z_ _ => z_ = .slice (some ⟨g1, 0, none⟩) n0 c1⟩, ⟨1, 70, fun z_ _ => z_ = .slice (some ⟨g1, 0, none⟩) n0 c1⟩, ⟨2, 71, fun z_ _ => z_ = .int .i64 (i : Int)⟩, ⟨3, 72, fun z_ _ => z_ = .pointer (some ⟨g1, i * 2, none⟩)⟩, ⟨4, 73, fun z_ _ => z_ = .agg #[.int .i64 (2 * (f0 i / 2)), .int .i64 (2 * (g0 i / 2))]⟩, ⟨5, 74, fun z_ _ => z_ = .slice (some ⟨g1, 0, none⟩) n0 c1⟩, ⟨6, 75, fun z_ _ => z_ = .int .i64 (q : Int)⟩, ⟨7, 76, fun z_ _ => z_ = .pointer (some ⟨g1, q * 2, none⟩)⟩, ⟨8, 77, fun z_ _ => z_ = .agg #[.int .i64 (2 * (f0 q / 2)), .int .i64 (2 * (g0 q / 2))]⟩, ⟨9, 78, fun z_ _ => z_ = .agg #[.int .i64 (f0 i / 2 + f0 q / 2), .int .i64 (g0 i / 2 + g0 q / 2)]⟩, ⟨10, 79, fun z_ _ => z_ = .int .i64 0⟩, ⟨11, 80, fun z_ _ => z_ = .int .i64 0⟩, ⟨12, 81, fun z_ _ => z_ = .bool false⟩] 13 (by kernel_rfl) ?_ ?_ ?_
            · refine ⟨?_, ?_, ?_, ?_, ?_, ?_, ?_, ?_, ?_, ?_, ?_, ?_, ?_, trivial⟩
              all_goals (intro x w w' hb h; first | exact h | (obtain ⟨b_, h1, h2⟩ := h; exact ⟨b_, h1, h2.below hb (Nat.le_refl _)⟩))
            · refine ⟨?_, ?_, ?_, ?_, ?_, ?_, ?_, ?_, ?_, ?_, ?_, ?_, ?_, trivial⟩
              · intro a wz K hb ht hd hK
                have hbw := Lib.hid (below_tr RB100.out hb); clear hb
                have hx3 := (ht 3 rfl).trans rfl
                have es3 : a.tmps.getD 3 undef = _ := getD_of hx3; clear hx3
                clear ht hd
                have HK := Lib.hid hK; clear hK
                refine wpOpP_step (by simp only [List.getElem?_toArray, List.getElem?_cons_succ, List.getElem?_cons_zero]; rfl) (fun K' hK' => ?_)
                have HK' := Lib.hid hK'; clear hK'
                go_simp
                exact HK'.out _ _ (HK.out _ _ below_rf rfl)
              · intro a wz K hb ht hd hK
                have hbw := Lib.hid (below_tr RB100.out hb); clear hb
                have hx3 := (ht 3 rfl).trans rfl
                have es3 : a.tmps.getD 3 undef = _ := getD_of hx3; clear hx3
                clear ht hd
                have HK := Lib.hid hK; clear hK
                refine wpOpP_step (by simp only [List.getElem?_toArray, List.getElem?_cons_succ, List.getElem?_cons_zero]; rfl) (fun K' hK' => ?_)
                have HK' := Lib.hid hK'; clear hK'
                go_simp
                exact HK'.out _ _ (HK.out _ _ below_rf rfl)
              · intro a wz K hb ht hd hK
                have hbw := Lib.hid (below_tr RB100.out hb); clear hb
                have hx6 := (ht 6 rfl).trans rfl
                have es6 : a.tmps.getD 6 undef = _ := getD_of hx6; clear hx6
                clear ht hd
                have HK := Lib.hid hK; clear hK
                refine wpOpP_step (by simp only [List.getElem?_toArray, List.getElem?_cons_succ, List.getElem?_cons_zero]; rfl) (fun K' hK' => ?_)
                have HK' := Lib.hid hK'; clear hK'
                go_simp
                exact HK'.out _ _ (HK.out _ _ below_rf rfl)
              · intro a wz K hb ht hd hK
                have hbw := Lib.hid (below_tr RB100.out hb); clear hb
                obtain ⟨x70, hx70, hp70⟩ := hd 1 _ rfl (by kernel_rfl)
                obtain rfl := hp70
                have es70 : a.tmps.getD 70 undef = _ := getD_of hx70; clear hx70
                obtain ⟨x71, hx71, hp71⟩ := hd 2 _ rfl (by kernel_rfl)
                obtain rfl := hp71
                have es71 : a.tmps.getD 71 undef = _ := getD_of hx71; clear hx71
                clear ht hd
                have HK := Lib.hid hK; clear hK
                refine wpOpP_step (by simp only [List.getElem?_toArray, List.getElem?_cons_succ, List.getElem?_cons_zero]; rfl) (fun K' hK' => ?_)
                have HK' := Lib.hid hK'; clear hK'
                go_simp
                exact HK'.out _ _ (HK.out _ _ below_rf rfl)
              · intro a wz K hb ht hd hK
                have hbw := Lib.hid (below_tr RB100.out hb); clear hb
                obtain ⟨x72, hx72, hp72⟩ := hd 3 _ rfl (by kernel_rfl)
                obtain rfl := hp72
                have es72 : a.tmps.getD 72 undef = _ := getD_of hx72; clear hx72
                clear ht hd
                have zc0 := (FE.out.below hbw.out (Nat.le_refl _)).x
                have zc1 := (FE.out.below hbw.out (Nat.le_refl _)).y
                have HK := Lib.hid hK; clear hK
                refine wpOpP_step (by simp only [List.getElem?_toArray, List.getElem?_cons_succ, List.getElem?_cons_zero]; rfl) (fun K' hK' => ?_)
                have HK' := Lib.hid hK'; clear hK'
                go_simp
                exact HK'.out _ _ (HK.out _ _ below_rf rfl)
              · intro a wz K hb ht hd hK
                have hbw := Lib.hid (below_tr RB100.out hb); clear hb
                have hx3 := (ht 3 rfl).trans rfl
                have es3 : a.tmps.getD 3 undef = _ := getD_of hx3; clear hx3
                clear ht hd
                have HK := Lib.hid hK; clear hK
                refine wpOpP_step (by simp only [List.getElem?_toArray, List.getElem?_cons_succ, List.getElem?_cons_zero]; rfl) (fun K' hK' => ?_)
                have HK' := Lib.hid hK'; clear hK'
                go_simp
                exact HK'.out _ _ (HK.out _ _ below_rf rfl)
              · intro a wz K hb ht hd hK
                have hbw := Lib.hid (below_tr RB100.out hb); clear hb
                have hx7 := (ht 7 rfl).trans rfl
                have es7 : a.tmps.getD 7 undef = _ := getD_of hx7; clear hx7
                clear ht hd
                have HK := Lib.hid hK; clear hK
                refine wpOpP_step (by simp only [List.getElem?_toArray, List.getElem?_cons_succ, List.getElem?_cons_zero]; rfl) (fun K' hK' => ?_)
                have HK' := Lib.hid hK'; clear hK'
                go_simp
                exact HK'.out _ _ (HK.out _ _ below_rf rfl)
              · intro a wz K hb ht hd hK
                have hbw := Lib.hid (below_tr RB100.out hb); clear hb
                obtain ⟨x74, hx74, hp74⟩ := hd 5 _ rfl (by kernel_rfl)
                obtain rfl := hp74
                have es74 : a.tmps.getD 74 undef = _ := getD_of hx74; clear hx74
                obtain ⟨x75, hx75, hp75⟩ := hd 6 _ rfl (by kernel_rfl)
                obtain rfl := hp75
                have es75 : a.tmps.getD 75 undef = _ := getD_of hx75; clear hx75
                clear ht hd
                have HK := Lib.hid hK; clear hK
                refine wpOpP_step (by simp only [List.getElem?_toArray, List.getElem?_cons_succ, List.getElem?_cons_zero]; rfl) (fun K' hK' => ?_)
                have HK' := Lib.hid hK'; clear hK'
                go_simp
                exact HK'.out _ _ (HK.out _ _ below_rf rfl)
              · intro a wz K hb ht hd hK
                have hbw := Lib.hid (below_tr RB100.out hb); clear hb
                obtain ⟨x76, hx76, hp76⟩ := hd 7 _ rfl (by kernel_rfl)
                obtain rfl := hp76
                have es76 : a.tmps.getD 76 undef = _ := getD_of hx76; clear hx76
                clear ht hd
                have zc0 := (FG.out.below hbw.out (Nat.le_refl _)).x
                have zc1 := (FG.out.below hbw.out (Nat.le_refl _)).y
                have HK := Lib.hid hK; clear hK
                refine wpOpP_step (by simp only [List.getElem?_toArray, List.getElem?_cons_succ, List.getElem?_cons_zero]; rfl) (fun K' hK' => ?_)
                have HK' := Lib.hid hK'; clear hK'
                go_simp
                exact HK'.out _ _ (HK.out _ _ below_rf rfl)
              · intro a wz K hb ht hd hK
                have hbw := Lib.hid (below_tr RB100.out hb); clear hb
                obtain ⟨x73, hx73, hp73⟩ := hd 4 _ rfl (by kernel_rfl)
                obtain rfl := hp73
                have es73 : a.tmps.getD 73 undef = _ := getD_of hx73; clear hx73
                obtain ⟨x77, hx77, hp77⟩ := hd 8 _ rfl (by kernel_rfl)
                obtain rfl := hp77
                have es77 : a.tmps.getD 77 undef = _ := getD_of hx77; clear hx77
                clear ht hd
                have HK := Lib.hid hK; clear hK
                refine wpOpP_step (by simp only [List.getElem?_toArray, List.getElem?_cons_succ, List.getElem?_cons_zero]; rfl) (fun K' hK' => ?_)
                have HK' := Lib.hid hK'; clear hK'
                go_simp
                refine (law14_half _ _ _ _ HE1.out.1 HE1.out.2 HE2.out.1 HE2.out.2 _).mono ?_
                rintro e w1 ⟨rfl, B⟩
                go_wp2_with fail
                exact HK'.out _ _ (HK.out _ _ B rfl)
              · intro a wz K hb ht hd hK
                have hbw := Lib.hid (below_tr RB100.out hb); clear hb
                obtain ⟨x69, hx69, hp69⟩ := hd 0 _ rfl (by kernel_rfl)
                obtain rfl := hp69
                have es69 : a.tmps.getD 69 undef = _ := getD_of hx69; clear hx69
                obtain ⟨x78, hx78, hp78⟩ := hd 9 _ rfl (by kernel_rfl)
                obtain rfl := hp78
                have es78 : a.tmps.getD 78 undef = _ := getD_of hx78; clear hx78
                clear ht hd
                have HK := Lib.hid hK; clear hK
                refine wpOpP_step (by simp only [List.getElem?_toArray, List.getElem?_cons_succ, List.getElem?_cons_zero]; rfl) (fun K' hK' => ?_)
                have HK' := Lib.hid hK'; clear hK'
                go_simp
                refine (polygon_Locate _ n0 _ _ _ _ _ HIX.out HIY.out _ (FTr.out.below hbw.out (Nat.le_refl _)) (FXr.out.below hbw.out (Nat.le_refl _))).mono ?_
                rintro e w1 ⟨rfl, B⟩
                rw [HLM.out, HNB.out]; simp only [if_true, if_false, Bool.false_eq_true]
                go_wp2_with fail
                exact HK'.out _ _ (HK.out _ _ B rfl)
              · intro a wz K hb ht hd hK
                have hbw := Lib.hid (below_tr RB100.out hb); clear hb
                have hx8 := (ht 8 rfl).trans rfl
                have es8 : a.tmps.getD 8 undef = _ := getD_of hx8; clear hx8
                clear ht hd
                have HK := Lib.hid hK; clear hK
                refine wpOpP_step (by simp only [List.getElem?_toArray, List.getElem?_cons_succ, List.getElem?_cons_zero]; rfl) (fun K' hK' => ?_)
                have HK' := Lib.hid hK'; clear hK'
                go_simp
                exact HK'.out _ _ (HK.out _ _ below_rf rfl)
              · intro a wz K hb ht hd hK
                have hbw := Lib.hid (below_tr RB100.out hb); clear hb
                obtain ⟨x79, hx79, hp79⟩ := hd 10 _ rfl (by kernel_rfl)
                obtain rfl := hp79
                have es79 : a.tmps.getD 79 undef = _ := getD_of hx79; clear hx79
                obtain ⟨x80, hx80, hp80⟩ := hd 11 _ rfl (by kernel_rfl)
                obtain rfl := hp80
                have es80 : a.tmps.getD 80 undef = _ := getD_of hx80; clear hx80
                clear ht hd
                have HK := Lib.hid hK; clear hK
                refine wpOpP_step (by simp only [List.getElem?_toArray, List.getElem?_cons_succ, List.getElem?_cons_zero]; rfl) (fun K' hK' => ?_)
                have HK' := Lib.hid hK'; clear hK'
                go_simp
                exact HK'.out _ _ (HK.out _ _ below_rf rfl)
            intro w101 X hb hv
            simp only [List.foldl_cons, List.foldl_nil, Act.put, List.setIfInBounds_toArray, List.set_cons_zero, List.set_cons_succ, List.toList_toArray, List.drop_succ_cons, List.drop_zero]
            obtain ⟨hv0, hv1, hv2, hv3, hv4, hv5, hv6, hv7, hv8, hv9, hv10, hv11, hv12, -⟩ := hv
            have hV0 : (fun z_ _ => z_ = .slice (some ⟨g1, 0, none⟩) n0 c1) (X 69) w101 := hv0; clear hv0; have hv0 := hV0; clear hV0; generalize X 69 = X69 at *
            have hV1 : (fun z_ _ => z_ = .slice (some ⟨g1, 0, none⟩) n0 c1) (X 70) w101 := hv1; clear hv1; have hv1 := hV1; clear hV1; generalize X 70 = X70 at *
            have hV2 : (fun z_ _ => z_ = .int .i64 (i : Int)) (X 71) w101 := hv2; clear hv2; have hv2 := hV2; clear hV2; generalize X 71 = X71 at *
            have hV3 : (fun z_ _ => z_ = .pointer (some ⟨g1, i * 2, none⟩)) (X 72) w101 := hv3; clear hv3; have hv3 := hV3; clear hV3; generalize X 72 = X72 at *
            have hV4 : (fun z_ _ => z_ = .agg #[.int .i64 (2 * (f0 i / 2)), .int .i64 (2 * (g0 i / 2))]) (X 73) w101 := hv4; clear hv4; have hv4 := hV4; clear hV4; generalize X 73 = X73 at *
            have hV5 : (fun z_ _ => z_ = .slice (some ⟨g1, 0, none⟩) n0 c1) (X 74) w101 := hv5; clear hv5; have hv5 := hV5; clear hV5; generalize X 74 = X74 at *
            have hV6 : (fun z_ _ => z_ = .int .i64 (q : Int)) (X 75) w101 := hv6; clear hv6; have hv6 := hV6; clear hV6; generalize X 75 = X75 at *
            have hV7 : (fun z_ _ => z_ = .pointer (some ⟨g1, q * 2, none⟩)) (X 76) w101 := hv7; clear hv7; have hv7 := hV7; clear hV7; generalize X 76 = X76 at *
            have hV8 : (fun z_ _ => z_ = .agg #[.int .i64 (2 * (f0 q / 2)), .int .i64 (2 * (g0 q / 2))]) (X 77) w101 := hv8; clear hv8; have hv8 := hV8; clear hV8; generalize X 77 = X77 at *
            have hV9 : (fun z_ _ => z_ = .agg #[.int .i64 (f0 i / 2 + f0 q / 2), .int .i64 (g0 i / 2 + g0 q / 2)]) (X 78) w101 := hv9; clear hv9; have hv9 := hV9; clear hV9; generalize X 78 = X78 at *
            have hV10 : (fun z_ _ => z_ = .int .i64 0) (X 79) w101 := hv10; clear hv10; have hv10 := hV10; clear hV10; generalize X 79 = X79 at *
            have hV11 : (fun z_ _ => z_ = .int .i64 0) (X 80) w101 := hv11; clear hv11; have hv11 := hV11; clear hV11; generalize X 80 = X80 at *
            have hV12 : (fun z_ _ => z_ = .bool false) (X 81) w101 := hv12; clear hv12; have hv12 := hV12; clear hV12; generalize X 81 = X81 at *
            obtain rfl := hv0
            obtain rfl := hv1
            obtain rfl := hv2
            obtain rfl := hv3
            obtain rfl := hv4
            obtain rfl := hv5
            obtain rfl := hv6
            obtain rfl := hv7
            obtain rfl := hv8
            obtain rfl := hv9
            obtain rfl := hv10
            obtain rfl := hv11
            obtain rfl := hv12
            have RC := Lib.hid (below_tr RB100.out hb); clear hb
            have FT_101 := Lib.hid (FTr.out.below RC.out (Nat.le_refl _))
            have FX_101 := Lib.hid (FXr.out.below RC.out (Nat.le_refl _))
            have FE_101 := Lib.hid (FE.out.below RC.out (Nat.le_refl _))
            have FG_101 := Lib.hid (FG.out.below RC.out (Nat.le_refl _))
            have HB101 := Lib.hid (HS.out.trans (RC.out.mono HS.out.size))
            clear HS FTr FXr FE FG RB100
            refine wpListIn_nil ?_
            go_wp2_with fail
            go_roundw
            case rel => exact ⟨q + 1, hqi, hpos2.out, HBJ.out.trans (HB101.out.mono HBJ.out.size)⟩
            case measure => exact hms2.out
          · have b1 : ((i : Int) == (q : Int) + 1) = false := by simp; omega
            have b2 : ((q : Int) == 0) = true := by simp; omega
            have b3 : ((i : Int) == (n0 : Int) - 1) = true := by simp; omega
            have HNB := Lib.hid (show nbr n0 i q = true from by unfold nbr; simp; omega)
            clear hc
            go_wp2_with fail
            clear b1 b2 b3
            refine (wpIn_wide (n := 0)).1 ?_
            refine wpIn_region_any (by kernel_rfl) ?_
            change wpAnyIn _ _ _ _ _ _ _ _ _ (World.drew _)
            have RB100 := Lib.hid (below_drew0 wr)
            refine wpAnyIn_tail WideF.wide (fun a b => Below a.heap.size a b) (fun _ => below_rf) (fun _ _ _ h k => below_tr h k) [⟨0, 69, fun z_ _ => z_ = .slice (some ⟨g1, 0, none⟩) n0 c1⟩, ⟨1, 70, fun z_ _ => z_ = .slice (some ⟨g1, 0, none⟩) n0 c1⟩, ⟨2, 71, fun z_ _ => z_ = .int .i64 (i : Int)⟩, ⟨3, 72, fun z_ _ => z_ = .pointer (some ⟨g1, i * 2, none⟩)⟩, ⟨4, 73, fun z_ _ => z_ = .agg #[.int .i64 (2 * (f0 i / 2)), .int .i64 (2 * (g0 i / 2))]⟩, ⟨5, 74, fun z_ _ => z_ = .slice (some ⟨g1, 0, none⟩) n0 c1⟩, ⟨6, 75, fun z_ _ => z_ = .int .i64 (q : Int)⟩, ⟨7, 76, fun z_ _ => z_ = .pointer (some ⟨g1, q * 2, none⟩)⟩, ⟨8, 77, fun z_ _ => z_ = .agg #[.int .i64 (2 * (f0 q / 2)), .int .i64 (2 * (g0 q / 2))]⟩, ⟨9, 78, fun z_ _ => z_ = .agg #[.int .i64 (f0 i / 2 + f0 q / 2), .int .i64 (g0 i / 2 + g0 q / 2)]⟩, ⟨10, 79, fun z_ _ => z_ = .int .i64 0⟩, ⟨11, 80, fun z_ _ => z_ = .int .i64 0⟩, ⟨12, 81, fun z_ _ => z_ = .bool false⟩] 13 (by kernel_rfl) ?_ ?_ ?_
            · refine ⟨?_, ?_, ?_, ?_, ?_, ?_, ?_, ?_, ?_, ?_, ?_, ?_, ?_, trivial⟩
              all_goals (intro x w w' hb h; first | exact h | (obtain ⟨b_, h1, h2⟩ := h; exact ⟨b_, h1, h2.below hb (Nat.le_refl _)⟩))
            · refine ⟨?_, ?_, ?_, ?_, ?_, ?_, ?_, ?_, ?_, ?_, ?_, ?_, ?_, trivial⟩
              · intro a wz K hb ht hd hK
                have hbw := Lib.hid (below_tr RB100.out hb); clear hb
                have hx3 := (ht 3 rfl).trans rfl
                have es3 : a.tmps.getD 3 undef = _ := getD_of hx3; clear hx3
                clear ht hd
                have HK := Lib.hid hK; clear hK
                refine wpOpP_step (by simp only [List.getElem?_toArray, List.getElem?_cons_succ, List.getElem?_cons_zero]; rfl) (fun K' hK' => ?_)
                have HK' := Lib.hid hK'; clear hK'
                go_simp
                exact HK'.out _ _ (HK.out _ _ below_rf rfl)
              · intro a wz K hb ht hd hK
                have hbw := Lib.hid (below_tr RB100.out hb); clear hb
                have hx3 := (ht 3 rfl).trans rfl
                have es3 : a.tmps.getD 3 undef = _ := getD_of hx3; clear hx3
                clear ht hd
                have HK := Lib.hid hK; clear hK
                refine wpOpP_step (by simp only [List.getElem?_toArray, List.getElem?_cons_succ, List.getElem?_cons_zero]; rfl) (fun K' hK' => ?_)
                have HK' := Lib.hid hK'; clear hK'
                go_simp
                exact HK'.out _ _ (HK.out _ _ below_rf rfl)
              · intro a wz K hb ht hd hK
                have hbw := Lib.hid (below_tr RB100.out hb); clear hb
                have hx6 := (ht 6 rfl).trans rfl
                have es6 : a.tmps.getD 6 undef = _ := getD_of hx6; clear hx6
                clear ht hd
                have HK := Lib.hid hK; clear hK
                refine wpOpP_step (by simp only [List.getElem?_toArray, List.getElem?_cons_succ, List.getElem?_cons_zero]; rfl) (fun K' hK' => ?_)
                have HK' := Lib.hid hK'; clear hK'
                go_simp
                exact HK'.out _ _ (HK.out _ _ below_rf rfl)
              · intro a wz K hb ht hd hK
                have hbw := Lib.hid (below_tr RB100.out hb); clear hb
                obtain ⟨x70, hx70, hp70⟩ := hd 1 _ rfl (by kernel_rfl)
                obtain rfl := hp70
                have es70 : a.tmps.getD 70 undef = _ := getD_of hx70; clear hx70
                obtain ⟨x71, hx71, hp71⟩ := hd 2 _ rfl (by kernel_rfl)
                obtain rfl := hp71
                have es71 : a.tmps.getD 71 undef = _ := getD_of hx71; clear hx71
                clear ht hd
                have HK := Lib.hid hK; clear hK
                refine wpOpP_step (by simp only [List.getElem?_toArray, List.getElem?_cons_succ, List.getElem?_cons_zero]; rfl) (fun K' hK' => ?_)
                have HK' := Lib.hid hK'; clear hK'
                go_simp
                exact HK'.out _ _ (HK.out _ _ below_rf rfl)
              · intro a wz K hb ht hd hK
                have hbw := Lib.hid (below_tr RB100.out hb); clear hb
                obtain ⟨x72, hx72, hp72⟩ := hd 3 _ rfl (by kernel_rfl)
                obtain rfl := hp72
                have es72 : a.tmps.getD 72 undef = _ := getD_of hx72; clear hx72
                clear ht hd
                have zc0 := (FE.out.below hbw.out (Nat.le_refl _)).x
                have zc1 := (FE.out.below hbw.out (Nat.le_refl _)).y
                have HK := Lib.hid hK; clear hK
                refine wpOpP_step (by simp only [List.getElem?_toArray, List.getElem?_cons_succ, List.getElem?_cons_zero]; rfl) (fun K' hK' => ?_)
                have HK' := Lib.hid hK'; clear hK'
                go_simp
                exact HK'.out _ _ (HK.out _ _ below_rf rfl)
              · intro a wz K hb ht hd hK
                have hbw := Lib.hid (below_tr RB100.out hb); clear hb
                have hx3 := (ht 3 rfl).trans rfl
                have es3 : a.tmps.getD 3 undef = _ := getD_of hx3; clear hx3
                clear ht hd
                have HK := Lib.hid hK; clear hK
                refine wpOpP_step (by simp only [List.getElem?_toArray, List.getElem?_cons_succ, List.getElem?_cons_zero]; rfl) (fun K' hK' => ?_)
                have HK' := Lib.hid hK'; clear hK'
                go_simp
                exact HK'.out _ _ (HK.out _ _ below_rf rfl)
              · intro a wz K hb ht hd hK
                have hbw := Lib.hid (below_tr RB100.out hb); clear hb
                have hx7 := (ht 7 rfl).trans rfl
                have es7 : a.tmps.getD 7 undef = _ := getD_of hx7; clear hx7
                clear ht hd
                have HK := Lib.hid hK; clear hK
                refine wpOpP_step (by simp only [List.getElem?_toArray, List.getElem?_cons_succ, List.getElem?_cons_zero]; rfl) (fun K' hK' => ?_)
                have HK' := Lib.hid hK'; clear hK'
                go_simp
                exact HK'.out _ _ (HK.out _ _ below_rf rfl)
              · intro a wz K hb ht hd hK
                have hbw := Lib.hid (below_tr RB100.out hb); clear hb
                obtain ⟨x74, hx74, hp74⟩ := hd 5 _ rfl (by kernel_rfl)
                obtain rfl := hp74
                have es74 : a.tmps.getD 74 undef = _ := getD_of hx74; clear hx74
                obtain ⟨x75, hx75, hp75⟩ := hd 6 _ rfl (by kernel_rfl)
                obtain rfl := hp75
                have es75 : a.tmps.getD 75 undef = _ := getD_of hx75; clear hx75
                clear ht hd
                have HK := Lib.hid hK; clear hK
                refine wpOpP_step (by simp only [List.getElem?_toArray, List.getElem?_cons_succ, List.getElem?_cons_zero]; rfl) (fun K' hK' => ?_)
                have HK' := Lib.hid hK'; clear hK'
                go_simp
                exact HK'.out _ _ (HK.out _ _ below_rf rfl)
              · intro a wz K hb ht hd hK
                have hbw := Lib.hid (below_tr RB100.out hb); clear hb
                obtain ⟨x76, hx76, hp76⟩ := hd 7 _ rfl (by kernel_rfl)
                obtain rfl := hp76
                have es76 : a.tmps.getD 76 undef = _ := getD_of hx76; clear hx76
                clear ht hd
                have zc0 := (FG.out.below hbw.out (Nat.le_refl _)).x
                have zc1 := (FG.out.below hbw.out (Nat.le_refl _)).y
                have HK := Lib.hid hK; clear hK
                refine wpOpP_step (by simp only [List.getElem?_toArray, List.getElem?_cons_succ, List.getElem?_cons_zero]; rfl) (fun K' hK' => ?_)
                have HK' := Lib.hid hK'; clear hK'
                go_simp
                exact HK'.out _ _ (HK.out _ _ below_rf rfl)
              · intro a wz K hb ht hd hK
                have hbw := Lib.hid (below_tr RB100.out hb); clear hb
                obtain ⟨x73, hx73, hp73⟩ := hd 4 _ rfl (by kernel_rfl)
                obtain rfl := hp73
                have es73 : a.tmps.getD 73 undef = _ := getD_of hx73; clear hx73
                obtain ⟨x77, hx77, hp77⟩ := hd 8 _ rfl (by kernel_rfl)
                obtain rfl := hp77
                have es77 : a.tmps.getD 77 undef = _ := getD_of hx77; clear hx77
                clear ht hd
                have HK := Lib.hid hK; clear hK
                refine wpOpP_step (by simp only [List.getElem?_toArray, List.getElem?_cons_succ, List.getElem?_cons_zero]; rfl) (fun K' hK' => ?_)
                have HK' := Lib.hid hK'; clear hK'
                go_simp
                refine (law14_half _ _ _ _ HE1.out.1 HE1.out.2 HE2.out.1 HE2.out.2 _).mono ?_
                rintro e w1 ⟨rfl, B⟩
                go_wp2_with fail
                exact HK'.out _ _ (HK.out _ _ B rfl)
              · intro a wz K hb ht hd hK
                have hbw := Lib.hid (below_tr RB100.out hb); clear hb
                obtain ⟨x69, hx69, hp69⟩ := hd 0 _ rfl (by kernel_rfl)
                obtain rfl := hp69
                have es69 : a.tmps.getD 69 undef = _ := getD_of hx69; clear hx69
                obtain ⟨x78, hx78, hp78⟩ := hd 9 _ rfl (by kernel_rfl)
                obtain rfl := hp78
                have es78 : a.tmps.getD 78 undef = _ := getD_of hx78; clear hx78
                clear ht hd
                have HK := Lib.hid hK; clear hK
                refine wpOpP_step (by simp only [List.getElem?_toArray, List.getElem?_cons_succ, List.getElem?_cons_zero]; rfl) (fun K' hK' => ?_)
                have HK' := Lib.hid hK'; clear hK'
                go_simp
                refine (polygon_Locate _ n0 _ _ _ _ _ HIX.out HIY.out _ (FTr.out.below hbw.out (Nat.le_refl _)) (FXr.out.below hbw.out (Nat.le_refl _))).mono ?_
                rintro e w1 ⟨rfl, B⟩
                rw [HLM.out, HNB.out]; simp only [if_true, if_false, Bool.false_eq_true]
                go_wp2_with fail
                exact HK'.out _ _ (HK.out _ _ B rfl)
              · intro a wz K hb ht hd hK
                have hbw := Lib.hid (below_tr RB100.out hb); clear hb
                have hx8 := (ht 8 rfl).trans rfl
                have es8 : a.tmps.getD 8 undef = _ := getD_of hx8; clear hx8
                clear ht hd
                have HK := Lib.hid hK; clear hK
                refine wpOpP_step (by simp only [List.getElem?_toArray, List.getElem?_cons_succ, List.getElem?_cons_zero]; rfl) (fun K' hK' => ?_)
                have HK' := Lib.hid hK'; clear hK'
                go_simp
                exact HK'.out _ _ (HK.out _ _ below_rf rfl)
              · intro a wz K hb ht hd hK
                have hbw := Lib.hid (below_tr RB100.out hb); clear hb
                obtain ⟨x79, hx79, hp79⟩ := hd 10 _ rfl (by kernel_rfl)
                obtain rfl := hp79
                have es79 : a.tmps.getD 79 undef = _ := getD_of hx79; clear hx79
                obtain ⟨x80, hx80, hp80⟩ := hd 11 _ rfl (by kernel_rfl)
                obtain rfl := hp80
                have es80 : a.tmps.getD 80 undef = _ := getD_of hx80; clear hx80
                clear ht hd
                have HK := Lib.hid hK; clear hK
                refine wpOpP_step (by simp only [List.getElem?_toArray, List.getElem?_cons_succ, List.getElem?_cons_zero]; rfl) (fun K' hK' => ?_)
                have HK' := Lib.hid hK'; clear hK'
                go_simp
                exact HK'.out _ _ (HK.out _ _ below_rf rfl)
            intro w101 X hb hv
            simp only [List.foldl_cons, List.foldl_nil, Act.put, List.setIfInBounds_toArray, List.set_cons_zero, List.set_cons_succ, List.toList_toArray, List.drop_succ_cons, List.drop_zero]
            obtain ⟨hv0, hv1, hv2, hv3, hv4, hv5, hv6, hv7, hv8, hv9, hv10, hv11, hv12, -⟩ := hv
            have hV0 : (fun z_ _ => z_ = .slice (some ⟨g1, 0, none⟩) n0 c1) (X 69) w101 := hv0; clear hv0; have hv0 := hV0; clear hV0; generalize X 69 = X69 at *
            have hV1 : (fun z_ _ => z_ = .slice (some ⟨g1, 0, none⟩) n0 c1) (X 70) w101 := hv1; clear hv1; have hv1 := hV1; clear hV1; generalize X 70 = X70 at *
            have hV2 : (fun z_ _ => z_ = .int .i64 (i : Int)) (X 71) w101 := hv2; clear hv2; have hv2 := hV2; clear hV2; generalize X 71 = X71 at *
            have hV3 : (fun z_ _ => z_ = .pointer (some ⟨g1, i * 2, none⟩)) (X 72) w101 := hv3; clear hv3; have hv3 := hV3; clear hV3; generalize X 72 = X72 at *
            have hV4 : (fun z_ _ => z_ = .agg #[.int .i64 (2 * (f0 i / 2)), .int .i64 (2 * (g0 i / 2))]) (X 73) w101 := hv4; clear hv4; have hv4 := hV4; clear hV4; generalize X 73 = X73 at *
            have hV5 : (fun z_ _ => z_ = .slice (some ⟨g1, 0, none⟩) n0 c1) (X 74) w101 := hv5; clear hv5; have hv5 := hV5; clear hV5; generalize X 74 = X74 at *
            have hV6 : (fun z_ _ => z_ = .int .i64 (q : Int)) (X 75) w101 := hv6; clear hv6; have hv6 := hV6; clear hV6; generalize X 75 = X75 at *
            have hV7 : (fun z_ _ => z_ = .pointer (some ⟨g1, q * 2, none⟩)) (X 76) w101 := hv7; clear hv7; have hv7 := hV7; clear hV7; generalize X 76 = X76 at *
            have hV8 : (fun z_ _ => z_ = .agg #[.int .i64 (2 * (f0 q / 2)), .int .i64 (2 * (g0 q / 2))]) (X 77) w101 := hv8; clear hv8; have hv8 := hV8; clear hV8; generalize X 77 = X77 at *
            have hV9 : (fun z_ _ => z_ = .agg #[.int .i64 (f0 i / 2 + f0 q / 2), .int .i64 (g0 i / 2 + g0 q / 2)]) (X 78) w101 := hv9; clear hv9; have hv9 := hV9; clear hV9; generalize X 78 = X78 at *
            have hV10 : (fun z_ _ => z_ = .int .i64 0) (X 79) w101 := hv10; clear hv10; have hv10 := hV10; clear hV10; generalize X 79 = X79 at *
            have hV11 : (fun z_ _ => z_ = .int .i64 0) (X 80) w101 := hv11; clear hv11; have hv11 := hV11; clear hV11; generalize X 80 = X80 at *
            have hV12 : (fun z_ _ => z_ = .bool false) (X 81) w101 := hv12; clear hv12; have hv12 := hV12; clear hV12; generalize X 81 = X81 at *
            obtain rfl := hv0
            obtain rfl := hv1
            obtain rfl := hv2
            obtain rfl := hv3
            obtain rfl := hv4
            obtain rfl := hv5
            obtain rfl := hv6
            obtain rfl := hv7
            obtain rfl := hv8
            obtain rfl := hv9
            obtain rfl := hv10
            obtain rfl := hv11
            obtain rfl := hv12
            have RC := Lib.hid (below_tr RB100.out hb); clear hb
            have FT_101 := Lib.hid (FTr.out.below RC.out (Nat.le_refl _))
            have FX_101 := Lib.hid (FXr.out.below RC.out (Nat.le_refl _))
            have FE_101 := Lib.hid (FE.out.below RC.out (Nat.le_refl _))
            have FG_101 := Lib.hid (FG.out.below RC.out (Nat.le_refl _))
            have HB101 := Lib.hid (HS.out.trans (RC.out.mono HS.out.size))
            clear HS FTr FXr FE FG RB100
            refine wpListIn_nil ?_
            go_wp2_with fail
            go_roundw
            case rel => exact ⟨q + 1, hqi, hpos2.out, HBJ.out.trans (HB101.out.mono HBJ.out.size)⟩
            case measure => exact hms2.out
          · have b1 : ((i : Int) == (q : Int) + 1) = false := by simp; omega
            have b2 : ((q : Int) == 0) = true := by simp; omega
            have b3 : ((i : Int) == (n0 : Int) - 1) = false := by simp; omega
            have HNB := Lib.hid (show nbr n0 i q = false from by unfold nbr; simp; omega)
            clear hc
            go_wp2_with fail
            clear b1 b2 b3
            refine (wpIn_wide (n := 0)).1 ?_
            refine wpIn_region_any (by kernel_rfl) ?_
            change wpAnyIn _ _ _ _ _ _ _ _ _ (World.drew _)
            have RB100 := Lib.hid (below_drew0 wr)
            refine wpAnyIn_tail WideF.wide (fun a b => Below a.heap.size a b) (fun _ => below_rf) (fun _ _ _ h k => below_tr h k) [⟨0, 69, fun z_ _ => z_ = .slice (some ⟨g1, 0, none⟩) n0 c1⟩, ⟨1, 70, fun z_ _ => z_ = .slice (some ⟨g1, 0, none⟩) n0 c1⟩, ⟨2, 71, fun z_ _ => z_ = .int .i64 (i : Int)⟩, ⟨3, 72, fun z_ _ => z_ = .pointer (some ⟨g1, i * 2, none⟩)⟩, ⟨4, 73, fun z_ _ => z_ = .agg #[.int .i64 (2 * (f0 i / 2)), .int .i64 (2 * (g0 i / 2))]⟩, ⟨5, 74, fun z_ _ => z_ = .slice (some ⟨g1, 0, none⟩) n0 c1⟩, ⟨6, 75, fun z_ _ => z_ = .int .i64 (q : Int)⟩, ⟨7, 76, fun z_ _ => z_ = .pointer (some ⟨g1, q * 2, none⟩)⟩, ⟨8, 77, fun z_ _ => z_ = .agg #[.int .i64 (2 * (f0 q / 2)), .int .i64 (2 * (g0 q / 2))]⟩, ⟨9, 78, fun z_ _ => z_ = .agg #[.int .i64 (f0 i / 2 + f0 q / 2), .int .i64 (g0 i / 2 + g0 q / 2)]⟩, ⟨10, 79, fun z_ _ => z_ = .int .i64 1⟩, ⟨11, 80, fun z_ _ => z_ = .int .i64 1⟩, ⟨12, 81, fun z_ _ => z_ = .bool false⟩] 13 (by kernel_rfl) ?_ ?_ ?_
            · refine ⟨?_, ?_, ?_, ?_, ?_, ?_, ?_, ?_, ?_, ?_, ?_, ?_, ?_, trivial⟩
              all_goals (intro x w w' hb h; first | exact h | (obtain ⟨b_, h1, h2⟩ := h; exact ⟨b_, h1, h2.below hb (Nat.le_refl _)⟩))
            · refine ⟨?_, ?_, ?_, ?_, ?_, ?_, ?_, ?_, ?_, ?_, ?_, ?_, ?_, trivial⟩
              · intro a wz K hb ht hd hK
                have hbw := Lib.hid (below_tr RB100.out hb); clear hb
                have hx3 := (ht 3 rfl).trans rfl
                have es3 : a.tmps.getD 3 undef = _ := getD_of hx3; clear hx3
                clear ht hd
                have HK := Lib.hid hK; clear hK
                refine wpOpP_step (by simp only [List.getElem?_toArray, List.getElem?_cons_succ, List.getElem?_cons_zero]; rfl) (fun K' hK' => ?_)
                have HK' := Lib.hid hK'; clear hK'
                go_simp
                exact HK'.out _ _ (HK.out _ _ below_rf rfl)
              · intro a wz K hb ht hd hK
                have hbw := Lib.hid (below_tr RB100.out hb); clear hb
                have hx3 := (ht 3 rfl).trans rfl
                have es3 : a.tmps.getD 3 undef = _ := getD_of hx3; clear hx3
                clear ht hd
                have HK := Lib.hid hK; clear hK
                refine wpOpP_step (by simp only [List.getElem?_toArray, List.getElem?_cons_succ, List.getElem?_cons_zero]; rfl) (fun K' hK' => ?_)
                have HK' := Lib.hid hK'; clear hK'
                go_simp
                exact HK'.out _ _ (HK.out _ _ below_rf rfl)
              · intro a wz K hb ht hd hK
                have hbw := Lib.hid (below_tr RB100.out hb); clear hb
                have hx6 := (ht 6 rfl).trans rfl
                have es6 : a.tmps.getD 6 undef = _ := getD_of hx6; clear hx6
                clear ht hd
                have HK := Lib.hid hK; clear hK
                refine wpOpP_step (by simp only [List.getElem?_toArray, List.getElem?_cons_succ, List.getElem?_cons_zero]; rfl) (fun K' hK' => ?_)
                have HK' := Lib.hid hK'; clear hK'
                go_simp
                exact HK'.out _ _ (HK.out _ _ below_rf rfl)
              · intro a wz K hb ht hd hK
                have hbw := Lib.hid (below_tr RB100.out hb); clear hb
                obtain ⟨x70, hx70, hp70⟩ := hd 1 _ rfl (by kernel_rfl)
                obtain rfl := hp70
                have es70 : a.tmps.getD 70 undef = _ := getD_of hx70; clear hx70
                obtain ⟨x71, hx71, hp71⟩ := hd 2 _ rfl (by kernel_rfl)
                obtain rfl := hp71
                have es71 : a.tmps.getD 71 undef = _ := getD_of hx71; clear hx71
                clear ht hd
                have HK := Lib.hid hK; clear hK
                refine wpOpP_step (by simp only [List.getElem?_toArray, List.getElem?_cons_succ, List.getElem?_cons_zero]; rfl) (fun K' hK' => ?_)
                have HK' := Lib.hid hK'; clear hK'
                go_simp
                exact HK'.out _ _ (HK.out _ _ below_rf rfl)
              · intro a wz K hb ht hd hK
                have hbw := Lib.hid (below_tr RB100.out hb); clear hb
                obtain ⟨x72, hx72, hp72⟩ := hd 3 _ rfl (by kernel_rfl)
                obtain rfl := hp72
                have es72 : a.tmps.getD 72 undef = _ := getD_of hx72; clear hx72
                clear ht hd
                have zc0 := (FE.out.below hbw.out (Nat.le_refl _)).x
                have zc1 := (FE.out.below hbw.out (Nat.le_refl _)).y
                have HK := Lib.hid hK; clear hK
                refine wpOpP_step (by simp only [List.getElem?_toArray, List.getElem?_cons_succ, List.getElem?_cons_zero]; rfl) (fun K' hK' => ?_)
                have HK' := Lib.hid hK'; clear hK'
                go_simp
                exact HK'.out _ _ (HK.out _ _ below_rf rfl)
              · intro a wz K hb ht hd hK
                have hbw := Lib.hid (below_tr RB100.out hb); clear hb
                have hx3 := (ht 3 rfl).trans rfl
                have es3 : a.tmps.getD 3 undef = _ := getD_of hx3; clear hx3
                clear ht hd
                have HK := Lib.hid hK; clear hK
                refine wpOpP_step (by simp only [List.getElem?_toArray, List.getElem?_cons_succ, List.getElem?_cons_zero]; rfl) (fun K' hK' => ?_)
                have HK' := Lib.hid hK'; clear hK'
                go_simp
                exact HK'.out _ _ (HK.out _ _ below_rf rfl)
              · intro a wz K hb ht hd hK
                have hbw := Lib.hid (below_tr RB100.out hb); clear hb
                have hx7 := (ht 7 rfl).trans rfl
                have es7 : a.tmps.getD 7 undef = _ := getD_of hx7; clear hx7
                clear ht hd
                have HK := Lib.hid hK; clear hK
                refine wpOpP_step (by simp only [List.getElem?_toArray, List.getElem?_cons_succ, List.getElem?_cons_zero]; rfl) (fun K' hK' => ?_)
                have HK' := Lib.hid hK'; clear hK'
                go_simp
                exact HK'.out _ _ (HK.out _ _ below_rf rfl)
              · intro a wz K hb ht hd hK
                have hbw := Lib.hid (below_tr RB100.out hb); clear hb
                obtain ⟨x74, hx74, hp74⟩ := hd 5 _ rfl (by kernel_rfl)
                obtain rfl := hp74
                have es74 : a.tmps.getD 74 undef = _ := getD_of hx74; clear hx74
                obtain ⟨x75, hx75, hp75⟩ := hd 6 _ rfl (by kernel_rfl)
                obtain rfl := hp75
                have es75 : a.tmps.getD 75 undef = _ := getD_of hx75; clear hx75
                clear ht hd
                have HK := Lib.hid hK; clear hK
                refine wpOpP_step (by simp only [List.getElem?_toArray, List.getElem?_cons_succ, List.getElem?_cons_zero]; rfl) (fun K' hK' => ?_)
                have HK' := Lib.hid hK'; clear hK'
                go_simp
                exact HK'.out _ _ (HK.out _ _ below_rf rfl)
              · intro a wz K hb ht hd hK
                have hbw := Lib.hid (below_tr RB100.out hb); clear hb
                obtain ⟨x76, hx76, hp76⟩ := hd 7 _ rfl (by kernel_rfl)
                obtain rfl := hp76
                have es76 : a.tmps.getD 76 undef = _ := getD_of hx76; clear hx76
                clear ht hd
                have zc0 := (FG.out.below hbw.out (Nat.le_refl _)).x
                have zc1 := (FG.out.below hbw.out (Nat.le_refl _)).y
                have HK := Lib.hid hK; clear hK
                refine wpOpP_step (by simp only [List.getElem?_toArray, List.getElem?_cons_succ, List.getElem?_cons_zero]; rfl) (fun K' hK' => ?_)
                have HK' := Lib.hid hK'; clear hK'
                go_simp
                exact HK'.out _ _ (HK.out _ _ below_rf rfl)
              · intro a wz K hb ht hd hK
                have hbw := Lib.hid (below_tr RB100.out hb); clear hb
                obtain ⟨x73, hx73, hp73⟩ := hd 4 _ rfl (by kernel_rfl)
                obtain rfl := hp73
                have es73 : a.tmps.getD 73 undef = _ := getD_of hx73; clear hx73
                obtain ⟨x77, hx77, hp77⟩ := hd 8 _ rfl (by kernel_rfl)
                obtain rfl := hp77
                have es77 : a.tmps.getD 77 undef = _ := getD_of hx77; clear hx77
                clear ht hd
                have HK := Lib.hid hK; clear hK
                refine wpOpP_step (by simp only [List.getElem?_toArray, List.getElem?_cons_succ, List.getElem?_cons_zero]; rfl) (fun K' hK' => ?_)
                have HK' := Lib.hid hK'; clear hK'
                go_simp
                refine (law14_half _ _ _ _ HE1.out.1 HE1.out.2 HE2.out.1 HE2.out.2 _).mono ?_
                rintro e w1 ⟨rfl, B⟩
                go_wp2_with fail
                exact HK'.out _ _ (HK.out _ _ B rfl)
              · intro a wz K hb ht hd hK
                have hbw := Lib.hid (below_tr RB100.out hb); clear hb
                obtain ⟨x69, hx69, hp69⟩ := hd 0 _ rfl (by kernel_rfl)
                obtain rfl := hp69
                have es69 : a.tmps.getD 69 undef = _ := getD_of hx69; clear hx69
                obtain ⟨x78, hx78, hp78⟩ := hd 9 _ rfl (by kernel_rfl)
                obtain rfl := hp78
                have es78 : a.tmps.getD 78 undef = _ := getD_of hx78; clear hx78
                clear ht hd
                have HK := Lib.hid hK; clear hK
                refine wpOpP_step (by simp only [List.getElem?_toArray, List.getElem?_cons_succ, List.getElem?_cons_zero]; rfl) (fun K' hK' => ?_)
                have HK' := Lib.hid hK'; clear hK'
                go_simp
                refine (polygon_Locate _ n0 _ _ _ _ _ HIX.out HIY.out _ (FTr.out.below hbw.out (Nat.le_refl _)) (FXr.out.below hbw.out (Nat.le_refl _))).mono ?_
                rintro e w1 ⟨rfl, B⟩
                rw [HLM.out, HNB.out]; simp only [if_true, if_false, Bool.false_eq_true]
                go_wp2_with fail
                exact HK'.out _ _ (HK.out _ _ B rfl)
              · intro a wz K hb ht hd hK
                have hbw := Lib.hid (below_tr RB100.out hb); clear hb
                have hx8 := (ht 8 rfl).trans rfl
                have es8 : a.tmps.getD 8 undef = _ := getD_of hx8; clear hx8
                clear ht hd
                have HK := Lib.hid hK; clear hK
                refine wpOpP_step (by simp only [List.getElem?_toArray, List.getElem?_cons_succ, List.getElem?_cons_zero]; rfl) (fun K' hK' => ?_)
                have HK' := Lib.hid hK'; clear hK'
                go_simp
                exact HK'.out _ _ (HK.out _ _ below_rf rfl)
              · intro a wz K hb ht hd hK
                have hbw := Lib.hid (below_tr RB100.out hb); clear hb
                obtain ⟨x79, hx79, hp79⟩ := hd 10 _ rfl (by kernel_rfl)
                obtain rfl := hp79
                have es79 : a.tmps.getD 79 undef = _ := getD_of hx79; clear hx79
                obtain ⟨x80, hx80, hp80⟩ := hd 11 _ rfl (by kernel_rfl)
                obtain rfl := hp80
                have es80 : a.tmps.getD 80 undef = _ := getD_of hx80; clear hx80
                clear ht hd
                have HK := Lib.hid hK; clear hK
                refine wpOpP_step (by simp only [List.getElem?_toArray, List.getElem?_cons_succ, List.getElem?_cons_zero]; rfl) (fun K' hK' => ?_)
                have HK' := Lib.hid hK'; clear hK'
                go_simp
                exact HK'.out _ _ (HK.out _ _ below_rf rfl)
            intro w101 X hb hv
            simp only [List.foldl_cons, List.foldl_nil, Act.put, List.setIfInBounds_toArray, List.set_cons_zero, List.set_cons_succ, List.toList_toArray, List.drop_succ_cons, List.drop_zero]
            obtain ⟨hv0, hv1, hv2, hv3, hv4, hv5, hv6, hv7, hv8, hv9, hv10, hv11, hv12, -⟩ := hv
            have hV0 : (fun z_ _ => z_ = .slice (some ⟨g1, 0, none⟩) n0 c1) (X 69) w101 := hv0; clear hv0; have hv0 := hV0; clear hV0; generalize X 69 = X69 at *
            have hV1 : (fun z_ _ => z_ = .slice (some ⟨g1, 0, none⟩) n0 c1) (X 70) w101 := hv1; clear hv1; have hv1 := hV1; clear hV1; generalize X 70 = X70 at *
            have hV2 : (fun z_ _ => z_ = .int .i64 (i : Int)) (X 71) w101 := hv2; clear hv2; have hv2 := hV2; clear hV2; generalize X 71 = X71 at *
            have hV3 : (fun z_ _ => z_ = .pointer (some ⟨g1, i * 2, none⟩)) (X 72) w101 := hv3; clear hv3; have hv3 := hV3; clear hV3; generalize X 72 = X72 at *
            have hV4 : (fun z_ _ => z_ = .agg #[.int .i64 (2 * (f0 i / 2)), .int .i64 (2 * (g0 i / 2))]) (X 73) w101 := hv4; clear hv4; have hv4 := hV4; clear hV4; generalize X 73 = X73 at *
            have hV5 : (fun z_ _ => z_ = .slice (some ⟨g1, 0, none⟩) n0 c1) (X 74) w101 := hv5; clear hv5; have hv5 := hV5; clear hV5; generalize X 74 = X74 at *
            have hV6 : (fun z_ _ => z_ = .int .i64 (q : Int)) (X 75) w101 := hv6; clear hv6; have hv6 := hV6; clear hV6; generalize X 75 = X75 at *
            have hV7 : (fun z_ _ => z_ = .pointer (some ⟨g1, q * 2, none⟩)) (X 76) w101 := hv7; clear hv7; have hv7 := hV7; clear hV7; generalize X 76 = X76 at *
            have hV8 : (fun z_ _ => z_ = .agg #[.int .i64 (2 * (f0 q / 2)), .int .i64 (2 * (g0 q / 2))]) (X 77) w101 := hv8; clear hv8; have hv8 := hV8; clear hV8; generalize X 77 = X77 at *
            have hV9 : (fun z_ _ => z_ = .agg #[.int .i64 (f0 i / 2 + f0 q / 2), .int .i64 (g0 i / 2 + g0 q / 2)]) (X 78) w101 := hv9; clear hv9; have hv9 := hV9; clear hV9; generalize X 78 = X78 at *
            have hV10 : (fun z_ _ => z_ = .int .i64 1) (X 79) w101 := hv10; clear hv10; have hv10 := hV10; clear hV10; generalize X 79 = X79 at *
            have hV11 : (fun z_ _ => z_ = .int .i64 1) (X 80) w101 := hv11; clear hv11; have hv11 := hV11; clear hV11; generalize X 80 = X80 at *
            have hV12 : (fun z_ _ => z_ = .bool false) (X 81) w101 := hv12; clear hv12; have hv12 := hV12; clear hV12; generalize X 81 = X81 at *
            obtain rfl := hv0
            obtain rfl := hv1
            obtain rfl := hv2
            obtain rfl := hv3
            obtain rfl := hv4
            obtain rfl := hv5
            obtain rfl := hv6
            obtain rfl := hv7
            obtain rfl := hv8
            obtain rfl := hv9
            obtain rfl := hv10
            obtain rfl := hv11
            obtain rfl := hv12
            have RC := Lib.hid (below_tr RB100.out hb); clear hb
            have FT_101 := Lib.hid (FTr.out.below RC.out (Nat.le_refl _))
            have FX_101 := Lib.hid (FXr.out.below RC.out (Nat.le_refl _))
            have FE_101 := Lib.hid (FE.out.below RC.out (Nat.le_refl _))
            have FG_101 := Lib.hid (FG.out.below RC.out (Nat.le_refl _))
            have HB101 := Lib.hid (HS.out.trans (RC.out.mono HS.out.size))
            clear HS FTr FXr FE FG RB100
            refine wpListIn_nil ?_
            go_wp2_with fail
            go_roundw
            case rel => exact ⟨q + 1, hqi, hpos2.out, HBJ.out.trans (HB101.out.mono HBJ.out.size)⟩
            case measure => exact hms2.out
          · have b1 : ((i : Int) == (q : Int) + 1) = false := by simp; omega
            have b2 : ((q : Int) == 0) = false := by simp; omega
            have HNB := Lib.hid (show nbr n0 i q = false from by unfold nbr; simp; omega)
            clear hc
            go_wp2_with fail
            clear b1 b2
            refine (wpIn_wide (n := 0)).1 ?_
            refine wpIn_region_any (by kernel_rfl) ?_
            change wpAnyIn _ _ _ _ _ _ _ _ _ (World.drew _)
            have RB100 := Lib.hid (below_drew0 wr)
            refine wpAnyIn_tail WideF.wide (fun a b => Below a.heap.size a b) (fun _ => below_rf) (fun _ _ _ h k => below_tr h k) [⟨0, 69, fun z_ _ => z_ = .slice (some ⟨g1, 0, none⟩) n0 c1⟩, ⟨1, 70, fun z_ _ => z_ = .slice (some ⟨g1, 0, none⟩) n0 c1⟩, ⟨2, 71, fun z_ _ => z_ = .int .i64 (i : Int)⟩, ⟨3, 72, fun z_ _ => z_ = .pointer (some ⟨g1, i * 2, none⟩)⟩, ⟨4, 73, fun z_ _ => z_ = .agg #[.int .i64 (2 * (f0 i / 2)), .int .i64 (2 * (g0 i / 2))]⟩, ⟨5, 74, fun z_ _ => z_ = .slice (some ⟨g1, 0, none⟩) n0 c1⟩, ⟨6, 75, fun z_ _ => z_ = .int .i64 (q : Int)⟩, ⟨7, 76, fun z_ _ => z_ = .pointer (some ⟨g1, q * 2, none⟩)⟩, ⟨8, 77, fun z_ _ => z_ = .agg #[.int .i64 (2 * (f0 q / 2)), .int .i64 (2 * (g0 q / 2))]⟩, ⟨9, 78, fun z_ _ => z_ = .agg #[.int .i64 (f0 i / 2 + f0 q / 2), .int .i64 (g0 i / 2 + g0 q / 2)]⟩, ⟨10, 79, fun z_ _ => z_ = .int .i64 1⟩, ⟨11, 80, fun z_ _ => z_ = .int .i64 1⟩, ⟨12, 81, fun z_ _ => z_ = .bool false⟩] 13 (by kernel_rfl) ?_ ?_ ?_
            · refine ⟨?_, ?_, ?_, ?_, ?_, ?_, ?_, ?_, ?_, ?_, ?_, ?_, ?_, trivial⟩
              all_goals (intro x w w' hb h; first | exact h | (obtain ⟨b_, h1, h2⟩ := h; exact ⟨b_, h1, h2.below hb (Nat.le_refl _)⟩))
            · refine ⟨?_, ?_, ?_, ?_, ?_, ?_, ?_, ?_, ?_, ?_, ?_, ?_, ?_, trivial⟩
              · intro a wz K hb ht hd hK
                have hbw := Lib.hid (below_tr RB100.out hb); clear hb
                have hx3 := (ht 3 rfl).trans rfl
                have es3 : a.tmps.getD 3 undef = _ := getD_of hx3; clear hx3
                clear ht hd
                have HK := Lib.hid hK; clear hK
                refine wpOpP_step (by simp only [List.getElem?_toArray, List.getElem?_cons_succ, List.getElem?_cons_zero]; rfl) (fun K' hK' => ?_)
                have HK' := Lib.hid hK'; clear hK'
                go_simp
                exact HK'.out _ _ (HK.out _ _ below_rf rfl)
              · intro a wz K hb ht hd hK
                have hbw := Lib.hid (below_tr RB100.out hb); clear hb
                have hx3 := (ht 3 rfl).trans rfl
                have es3 : a.tmps.getD 3 undef = _ := getD_of hx3; clear hx3
                clear ht hd
                have HK := Lib.hid hK; clear hK
                refine wpOpP_step (by simp only [List.getElem?_toArray, List.getElem?_cons_succ, List.getElem?_cons_zero]; rfl) (fun K' hK' => ?_)
                have HK' := Lib.hid hK'; clear hK'
                go_simp
                exact HK'.out _ _ (HK.out _ _ below_rf rfl)
              · intro a wz K hb ht hd hK
                have hbw := Lib.hid (below_tr RB100.out hb); clear hb
                have hx6 := (ht 6 rfl).trans rfl
                have es6 : a.tmps.getD 6 undef = _ := getD_of hx6; clear hx6
                clear ht hd
                have HK := Lib.hid hK; clear hK
                refine wpOpP_step (by simp only [List.getElem?_toArray, List.getElem?_cons_succ, List.getElem?_cons_zero]; rfl) (fun K' hK' => ?_)
                have HK' := Lib.hid hK'; clear hK'
                go_simp
                exact HK'.out _ _ (HK.out _ _ below_rf rfl)
              · intro a wz K hb ht hd hK
                have hbw := Lib.hid (below_tr RB100.out hb); clear hb
                obtain ⟨x70, hx70, hp70⟩ := hd 1 _ rfl (by kernel_rfl)
                obtain rfl := hp70
                have es70 : a.tmps.getD 70 undef = _ := getD_of hx70; clear hx70
                obtain ⟨x71, hx71, hp71⟩ := hd 2 _ rfl (by kernel_rfl)
                obtain rfl := hp71
                have es71 : a.tmps.getD 71 undef = _ := getD_of hx71; clear hx71
                clear ht hd
                have HK := Lib.hid hK; clear hK
                refine wpOpP_step (by simp only [List.getElem?_toArray, List.getElem?_cons_succ, List.getElem?_cons_zero]; rfl) (fun K' hK' => ?_)
                have HK' := Lib.hid hK'; clear hK'
                go_simp
                exact HK'.out _ _ (HK.out _ _ below_rf rfl)
              · intro a wz K hb ht hd hK
                have hbw := Lib.hid (below_tr RB100.out hb); clear hb
                obtain ⟨x72, hx72, hp72⟩ := hd 3 _ rfl (by kernel_rfl)
                obtain rfl := hp72
                have es72 : a.tmps.getD 72 undef = _ := getD_of hx72; clear hx72
                clear ht hd
                have zc0 := (FE.out.below hbw.out (Nat.le_refl _)).x
                have zc1 := (FE.out.below hbw.out (Nat.le_refl _)).y
                have HK := Lib.hid hK; clear hK
                refine wpOpP_step (by simp only [List.getElem?_toArray, List.getElem?_cons_succ, List.getElem?_cons_zero]; rfl) (fun K' hK' => ?_)
                have HK' := Lib.hid hK'; clear hK'
                go_simp
                exact HK'.out _ _ (HK.out _ _ below_rf rfl)
              · intro a wz K hb ht hd hK
                have hbw := Lib.hid (below_tr RB100.out hb); clear hb
                have hx3 := (ht 3 rfl).trans rfl
                have es3 : a.tmps.getD 3 undef = _ := getD_of hx3; clear hx3
                clear ht hd
                have HK := Lib.hid hK; clear hK
                refine wpOpP_step (by simp only [List.getElem?_toArray, List.getElem?_cons_succ, List.getElem?_cons_zero]; rfl) (fun K' hK' => ?_)
                have HK' := Lib.hid hK'; clear hK'
                go_simp
                exact HK'.out _ _ (HK.out _ _ below_rf rfl)
              · intro a wz K hb ht hd hK
                have hbw := Lib.hid (below_tr RB100.out hb); clear hb
                have hx7 := (ht 7 rfl).trans rfl
                have es7 : a.tmps.getD 7 undef = _ := getD_of hx7; clear hx7
                clear ht hd
                have HK := Lib.hid hK; clear hK
                refine wpOpP_step (by simp only [List.getElem?_toArray, List.getElem?_cons_succ, List.getElem?_cons_zero]; rfl) (fun K' hK' => ?_)
                have HK' := Lib.hid hK'; clear hK'
                go_simp
                exact HK'.out _ _ (HK.out _ _ below_rf rfl)
              · intro a wz K hb ht hd hK
                have hbw := Lib.hid (below_tr RB100.out hb); clear hb
                obtain ⟨x74, hx74, hp74⟩ := hd 5 _ rfl (by kernel_rfl)
                obtain rfl := hp74
                have es74 : a.tmps.getD 74 undef = _ := getD_of hx74; clear hx74
                obtain ⟨x75, hx75, hp75⟩ := hd 6 _ rfl (by kernel_rfl)
                obtain rfl := hp75
                have es75 : a.tmps.getD 75 undef = _ := getD_of hx75; clear hx75
                clear ht hd
                have HK := Lib.hid hK; clear hK
                refine wpOpP_step (by simp only [List.getElem?_toArray, List.getElem?_cons_succ, List.getElem?_cons_zero]; rfl) (fun K' hK' => ?_)
                have HK' := Lib.hid hK'; clear hK'
                go_simp
                exact HK'.out _ _ (HK.out _ _ below_rf rfl)
              · intro a wz K hb ht hd hK
                have hbw := Lib.hid (below_tr RB100.out hb); clear hb
                obtain ⟨x76, hx76, hp76⟩ := hd 7 _ rfl (by kernel_rfl)
                obtain rfl := hp76
                have es76 : a.tmps.getD 76 undef = _ := getD_of hx76; clear hx76
                clear ht hd
                have zc0 := (FG.out.below hbw.out (Nat.le_refl _)).x
                have zc1 := (FG.out.below hbw.out (Nat.le_refl _)).y
                have HK := Lib.hid hK; clear hK
                refine wpOpP_step (by simp only [List.getElem?_toArray, List.getElem?_cons_succ, List.getElem?_cons_zero]; rfl) (fun K' hK' => ?_)
                have HK' := Lib.hid hK'; clear hK'
                go_simp
                exact HK'.out _ _ (HK.out _ _ below_rf rfl)
              · intro a wz K hb ht hd hK
                have hbw := Lib.hid (below_tr RB100.out hb); clear hb
                obtain ⟨x73, hx73, hp73⟩ := hd 4 _ rfl (by kernel_rfl)
                obtain rfl := hp73
                have es73 : a.tmps.getD 73 undef = _ := getD_of hx73; clear hx73
                obtain ⟨x77, hx77, hp77⟩ := hd 8 _ rfl (by kernel_rfl)
                obtain rfl := hp77
                have es77 : a.tmps.getD 77 undef = _ := getD_of hx77; clear hx77
                clear ht hd
                have HK := Lib.hid hK; clear hK
                refine wpOpP_step (by simp only [List.getElem?_toArray, List.getElem?_cons_succ, List.getElem?_cons_zero]; rfl) (fun K' hK' => ?_)
                have HK' := Lib.hid hK'; clear hK'
                go_simp
                refine (law14_half _ _ _ _ HE1.out.1 HE1.out.2 HE2.out.1 HE2.out.2 _).mono ?_
                rintro e w1 ⟨rfl, B⟩
                go_wp2_with fail
                exact HK'.out _ _ (HK.out _ _ B rfl)
              · intro a wz K hb ht hd hK
                have hbw := Lib.hid (below_tr RB100.out hb); clear hb
                obtain ⟨x69, hx69, hp69⟩ := hd 0 _ rfl (by kernel_rfl)
                obtain rfl := hp69
                have es69 : a.tmps.getD 69 undef = _ := getD_of hx69; clear hx69
                obtain ⟨x78, hx78, hp78⟩ := hd 9 _ rfl (by kernel_rfl)
                obtain rfl := hp78
                have es78 : a.tmps.getD 78 undef = _ := getD_of hx78; clear hx78
                clear ht hd
                have HK := Lib.hid hK; clear hK
                refine wpOpP_step (by simp only [List.getElem?_toArray, List.getElem?_cons_succ, List.getElem?_cons_zero]; rfl) (fun K' hK' => ?_)
                have HK' := Lib.hid hK'; clear hK'
                go_simp
                refine (polygon_Locate _ n0 _ _ _ _ _ HIX.out HIY.out _ (FTr.out.below hbw.out (Nat.le_refl _)) (FXr.out.below hbw.out (Nat.le_refl _))).mono ?_
                rintro e w1 ⟨rfl, B⟩
                rw [HLM.out, HNB.out]; simp only [if_true, if_false, Bool.false_eq_true]
                go_wp2_with fail
                exact HK'.out _ _ (HK.out _ _ B rfl)
              · intro a wz K hb ht hd hK
                have hbw := Lib.hid (below_tr RB100.out hb); clear hb
                have hx8 := (ht 8 rfl).trans rfl
                have es8 : a.tmps.getD 8 undef = _ := getD_of hx8; clear hx8
                clear ht hd
                have HK := Lib.hid hK; clear hK
                refine wpOpP_step (by simp only [List.getElem?_toArray, List.getElem?_cons_succ, List.getElem?_cons_zero]; rfl) (fun K' hK' => ?_)
                have HK' := Lib.hid hK'; clear hK'
                go_simp
                exact HK'.out _ _ (HK.out _ _ below_rf rfl)
              · intro a wz K hb ht hd hK
                have hbw := Lib.hid (below_tr RB100.out hb); clear hb
                obtain ⟨x79, hx79, hp79⟩ := hd 10 _ rfl (by kernel_rfl)
                obtain rfl := hp79
                have es79 : a.tmps.getD 79 undef = _ := getD_of hx79; clear hx79
                obtain ⟨x80, hx80, hp80⟩ := hd 11 _ rfl (by kernel_rfl)
                obtain rfl := hp80
                have es80 : a.tmps.getD 80 undef = _ := getD_of hx80; clear hx80
                clear ht hd
                have HK := Lib.hid hK; clear hK
                refine wpOpP_step (by simp only [List.getElem?_toArray, List.getElem?_cons_succ, List.getElem?_cons_zero]; rfl) (fun K' hK' => ?_)
                have HK' := Lib.hid hK'; clear hK'
                go_simp
                exact HK'.out _ _ (HK.out _ _ below_rf rfl)
            intro w101 X hb hv
            simp only [List.foldl_cons, List.foldl_nil, Act.put, List.setIfInBounds_toArray, List.set_cons_zero, List.set_cons_succ, List.toList_toArray, List.drop_succ_cons, List.drop_zero]
            obtain ⟨hv0, hv1, hv2, hv3, hv4, hv5, hv6, hv7, hv8, hv9, hv10, hv11, hv12, -⟩ := hv
            have hV0 : (fun z_ _ => z_ = .slice (some ⟨g1, 0, none⟩) n0 c1) (X 69) w101 := hv0; clear hv0; have hv0 := hV0; clear hV0; generalize X 69 = X69 at *
            have hV1 : (fun z_ _ => z_ = .slice (some ⟨g1, 0, none⟩) n0 c1) (X 70) w101 := hv1; clear hv1; have hv1 := hV1; clear hV1; generalize X 70 = X70 at *
            have hV2 : (fun z_ _ => z_ = .int .i64 (i : Int)) (X 71) w101 := hv2; clear hv2; have hv2 := hV2; clear hV2; generalize X 71 = X71 at *
            have hV3 : (fun z_ _ => z_ = .pointer (some ⟨g1, i * 2, none⟩)) (X 72) w101 := hv3; clear hv3; have hv3 := hV3; clear hV3; generalize X 72 = X72 at *
            have hV4 : (fun z_ _ => z_ = .agg #[.int .i64 (2 * (f0 i / 2)), .int .i64 (2 * (g0 i / 2))]) (X 73) w101 := hv4; clear hv4; have hv4 := hV4; clear hV4; generalize X 73 = X73 at *
            have hV5 : (fun z_ _ => z_ = .slice (some ⟨g1, 0, none⟩) n0 c1) (X 74) w101 := hv5; clear hv5; have hv5 := hV5; clear hV5; generalize X 74 = X74 at *
            have hV6 : (fun z_ _ => z_ = .int .i64 (q : Int)) (X 75) w101 := hv6; clear hv6; have hv6 := hV6; clear hV6; generalize X 75 = X75 at *
            have hV7 : (fun z_ _ => z_ = .pointer (some ⟨g1, q * 2, none⟩)) (X 76) w101 := hv7; clear hv7; have hv7 := hV7; clear hV7; generalize X 76 = X76 at *
            have hV8 : (fun z_ _ => z_ = .agg #[.int .i64 (2 * (f0 q / 2)), .int .i64 (2 * (g0 q / 2))]) (X 77) w101 := hv8; clear hv8; have hv8 := hV8; clear hV8; generalize X 77 = X77 at *
            have hV9 : (fun z_ _ => z_ = .agg #[.int .i64 (f0 i / 2 + f0 q / 2), .int .i64 (g0 i / 2 + g0 q / 2)]) (X 78) w101 := hv9; clear hv9; have hv9 := hV9; clear hV9; generalize X 78 = X78 at *
            have hV10 : (fun z_ _ => z_ = .int .i64 1) (X 79) w101 := hv10; clear hv10; have hv10 := hV10; clear hV10; generalize X 79 = X79 at *
            have hV11 : (fun z_ _ => z_ = .int .i64 1) (X 80) w101 := hv11; clear hv11; have hv11 := hV11; clear hV11; generalize X 80 = X80 at *
            have hV12 : (fun z_ _ => z_ = .bool false) (X 81) w101 := hv12; clear hv12; have hv12 := hV12; clear hV12; generalize X 81 = X81 at *
            obtain rfl := hv0
            obtain rfl := hv1
            obtain rfl := hv2
            obtain rfl := hv3
            obtain rfl := hv4
            obtain rfl := hv5
            obtain rfl := hv6
            obtain rfl := hv7
            obtain rfl := hv8
            obtain rfl := hv9
            obtain rfl := hv10
            obtain rfl := hv11
            obtain rfl := hv12
            have RC := Lib.hid (below_tr RB100.out hb); clear hb
            have FT_101 := Lib.hid (FTr.out.below RC.out (Nat.le_refl _))
            have FX_101 := Lib.hid (FXr.out.below RC.out (Nat.le_refl _))
            have FE_101 := Lib.hid (FE.out.below RC.out (Nat.le_refl _))
            have FG_101 := Lib.hid (FG.out.below RC.out (Nat.le_refl _))
            have HB101 := Lib.hid (HS.out.trans (RC.out.mono HS.out.size))
            clear HS FTr FXr FE FG RB100
            refine wpListIn_nil ?_
            go_wp2_with fail
            go_roundw
            case rel => exact ⟨q + 1, hqi, hpos2.out, HBJ.out.trans (HB101.out.mono HBJ.out.size)⟩
            case measure => exact hms2.out

theorem gTab0 : Tryd.prog.globalNamed "geofence/mask.words" = some 0 := by kernel_rfl
theorem gTabType0 : (Tryd.prog.globals[0]?).map (·.type) = some 93 := by kernel_rfl
theorem cellsT0 : Tryd.prog.cellsOf 93 = 2 := by kernel_rfl
theorem cellsE0 : Tryd.prog.cellsOf 23 = 1 := by kernel_rfl
theorem tableIs0 {W : World} (h : laidMetH Tryd.prog Rows.polygonMiddlesRow.laid W) : Lib.TabIs Tryd.prog W "geofence/mask.words" .u64 [9223372036854775808, 18446744073709551615] :=
  Lib.tabIs_of_head (rest := _) gTab0 gTabType0 Tryd.underlying93 Tryd.underlying23 cellsE0 cellsT0 h
theorem table0 {W : World} (h : laidMetH Tryd.prog Rows.polygonMiddlesRow.laid W) : TabM W := ⟨(tableIs0 h).cell gTab0 0 (by decide), (tableIs0 h).cell gTab0 1 (by decide)⟩

set_option maxRecDepth 100000 in
theorem contract (H : Type) (enc : TypeId × Value → H) (W : World) (base : Nat) (args : Array Value) (ds gs : List (DataW H)) (before : List MemPlace)
    (hval : ∀ (j : Nat) t v, Tryd.f18.params[j]? = some t → args[j]? = some v → Value.okWide Tryd.prog W .any base t v)
    (hW : DataW.Whole enc Tryd.prog Tryd.f18.params.toList Rows.polygonMiddlesSpec.vars false W args.toList ds gs before) (hL : laidMetH Tryd.prog Rows.polygonMiddlesRow.laid W) :
    Calls Tryd.prog 18 args W fun e W' => ∃ v, e = .returned v ∧ Rows.polygonMiddlesSpec.post enc Tryd.prog Tryd.f18 false true false false W args v W' := by
  have hW' := hW
  obtain ⟨p, q, hA0, hV, rfl, hfz, hnd⟩ := hW
  have hA : DataW.TrodAll enc Tryd.prog W 0 (fun _ => true) true Tryd.f18.params.toList args.toList ds p := hA0
  rw [Tryd.params18] at hA hval
  obtain ⟨v0, vs0, d0, ds0, p0, q0, hargs, rfl, rfl, h0, r0⟩ := trodAll_cons hA
  obtain ⟨rfl, rfl, rfl⟩ := trodAll_nil r0
  obtain rfl : args = #[v0] := by cases args; simp_all
  obtain ⟨rfl, rfl⟩ := trodVars_none hV
  have k0 := h0
  have lt0 : ∀ x ∈ p0, x.block < W.heap.size := by obtain ⟨m, hm⟩ := k0; exact DataW.trod_lt m _ _ _ hm
  obtain ⟨A0, n0, c0, rfl⟩ := okWide_slice Tryd.underlying35 (hval 0 35 v0 rfl rfl)
  obtain ⟨f0, g0, s0⟩ := Op.open_ptsl (w := W) Tryd.underlying35 Tryd.underlying28 rfl rfl rfl rfl Tryd.underlying2 (by kernel_rfl) (by kernel_rfl) h0
  clear hA0
  refine (walk A0 n0 c0 f0 g0 s0 (table0 hL)).mono fun e W' ⟨he, bel⟩ => ?_
  subst he
  exact ⟨_, rfl, _, _, _, [], _, [], hW', trodAll_mk1 (shut_bool Tryd.underlying4 _), (trodAll_cons_mk (Below.trod laidOut (by kernel_rfl) (of_decide_eq_true (by kernel_rfl)) k0 bel lt0) trodAll_mk0), rfl, bel.frame _, fun h => by cases h⟩

theorem joined : joinedFacts Tryd.prog 18 Tryd.f18 (OpenSpec.ofChange Rows.polygonMiddlesSpec).bare Rows.polygonMiddlesRow = true := by
  have e1 := enterIs
  have e2 := liftsIs
  have e3 := makeIs
  generalize hP : Tryd.prog = P at *
  unfold joinedFacts
  simp only [Bool.and_eq_true]
  repeat' apply And.intro
  all_goals first
    | with_reducible exact e1
    | (rw [e2]; kernel_rfl)
    | (rw [e3]; kernel_rfl)
    | (subst hP; kernel_rfl)

noncomputable def laidHeap (os : Os) : Array Obj :=
  (World.holding Tryd.prog os ⟨#[], #[], []⟩).heap.modify 0 (fun
      | .cells _ t frozen => .cells #[.int .u64 9223372036854775808, .int .u64 18446744073709551615] t frozen
      | o => o)
noncomputable def laidWorld (os : Os) : World :=
  { World.holding Tryd.prog os ⟨#[], #[], []⟩ with heap := laidHeap os }
theorem laid_met (os : Os) : laidMet Tryd.prog Rows.polygonMiddlesRow.laid ((laidWorld os).forCall (fun _ _ => 0) ⟨#[], #[.slice none 0 0], []⟩).memory :=
  laidMet_of_run' 8 (by kernel_rfl) (by kernel_rfl)
theorem reads (os : Os) {H : Type} (enc : TypeId × Value → H) : ∃ places, DataW.whole enc Tryd.prog ((laidWorld os).forCall (fun _ _ => 0) ⟨#[], #[.slice none 0 0], []⟩).memory Tryd.f18.params.toList Rows.polygonMiddlesSpec.vars false (#[.slice none 0 0] : Array Value).toList 8 = some ([.nil], [], places) :=
  ⟨[], by kernel_rfl⟩

set_option maxRecDepth 100000 in
theorem lifted (os : Os) (started : os.Started) (H : Type) (enc : TypeId × Value → H) (F : Stop.Interp) :
    ReturnsInHanded {} Tryd.checked os 18 .any ((OpenSpec.ofChange Rows.polygonMiddlesSpec).preRow enc Tryd.prog Tryd.f18 Rows.polygonMiddlesRow.domain false Rows.polygonMiddlesRow.laid) (((OpenSpec.ofChange Rows.polygonMiddlesSpec).at F).post enc Tryd.prog Tryd.f18 false true false false) := by
  obtain ⟨places, hx⟩ := reads os enc
  refine returnsInHanded_of_row (C := Tryd.checked) (s := OpenSpec.ofChange Rows.polygonMiddlesSpec) own started (by kernel_rfl) Tryd.func18
    (witness_row_at (enc := enc) (C := Tryd.checked) false (laidWorld os) #[.slice none 0 0] rfl (by kernel_rfl) (by kernel_rfl) (by kernel_rfl)
      (OpenSpec.preRow_of_cond 8 hx (by kernel_rfl) (fun k hk => by cases hk) (by kernel_rfl) (laid_met os))) ?_
  intro W base args ds gs before hval hW _ _ _ hL _ _
  exact contract H enc W base args ds gs before hval hW hL

theorem said : Rows.PolygonMiddlesSaid :=
  OpenClaim.holds_of_cond 18 Tryd.f18 rfl rfl rfl rfl rfl rfl rfl ⟨rfl, rfl, rfl, rfl, rfl⟩ rfl rfl rfl rfl rfl (by kernel_rfl) Tryd.func18 (joined)
    (of_decide_eq_true (by kernel_rfl)) (by unfold Func.isWrapper; first | (rw [if_pos (by decide +kernel)]; kernel_rfl) | (rw [if_neg (by decide +kernel)]; exact ⟨rfl, rfl⟩))
    (fun os started H enc _ F => by rw [OpenClaim.pre_eq_preRow]; exact lifted os started H enc F)

theorem plain (f : FuncId) (fn : Func) (hf : Tryd.pinned.checked.prog.funcNamed "geofence/geofencelaw14.PolygonMiddles" = some f) (hfn : Tryd.pinned.checked.prog.funcs[f]? = some fn) :
    false = Tryd.pinned.checked.prog.looks [] ∧ ∀ (j : Nat) t, fn.params[j]? = some t → Tryd.pinned.checked.prog.wantsStandIn t = false := by
  obtain rfl : f = 18 := Option.some.inj ((show Tryd.prog.funcNamed "geofence/geofencelaw14.PolygonMiddles" = some 18 by kernel_rfl).symm.trans hf) |>.symm
  obtain rfl : fn = Tryd.f18 := (Option.some.inj (Tryd.func18.symm.trans hfn)).symm
  refine ⟨by kernel_rfl, fun j t ht => ?_⟩
  rw [Tryd.params18] at ht
  have hm := Array.mem_of_getElem? ht
  simp at hm
  obtain rfl := hm
  exact (show Tryd.prog.wantsStandIn 35 = false by kernel_rfl)

/-- THE CARD -/
theorem card : Rows.PolygonMiddlesCardSaid :=
  Claim7.holds_tied_plain_at .later [] _ _ _ _ said (fun _ h => by cases h) (by kernel_rfl) (fun _ h => by cases h) polygonMiddles_row_tie rfl ⟨rfl, rfl⟩ (mainText) rfl plain (by kernel_rfl)
#print axioms card
end Go.Proofs.YtoikcgmdlccdbaaDoor.polygonMiddles
