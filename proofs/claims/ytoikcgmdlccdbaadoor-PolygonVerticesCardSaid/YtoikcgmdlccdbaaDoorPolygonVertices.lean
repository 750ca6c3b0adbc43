/- PolygonVertices: for every input the law returns true, and each argument reads afterwards as it read before; the package variable that the row lists holds what it lists. -/
import Derived.Test.YtoikcgmdlccdbaaDoorCards
import Derived.Test.YtoikcgmdlccdbaaDoorTie
import Derived.Test.YtoikcgmdlccdbaaDoorLaw14
import Derived.Test.YtoikcgmdlccdbaaDoorPolyR
import Derived.Test.YtoikcgmdlccdbaaDoorPolyP
import Derived.Test.YtoikcgmdlccdbaaDoorRegI
import Derived.Test.YtoikcgmdlccdbaaDoorPts
import Derived.Test.YtoikcgmdlccdbaaDoorMain
import Derived.Test.YtoikcgmdlccdbaaDoorOpenPt
import Derived.WalkKit
import Derived.ProofKit
import Derived.OpenShut
import Derived.Below
import Derived.Deep.DeepHandedRow
import Derived.Lib.LaidTab
namespace Go.Proofs.YtoikcgmdlccdbaaDoor.polygonVertices
open Go.ChangeShapes Go.WideShapes Go.ChangeAt Go.RowKit Wd
set_option linter.unusedVariables false
set_option linter.unusedSimpArgs false

theorem own : ownKnob Tryd.prog.godebug = none := by kernel_rfl
theorem laidOut : laidOutB Tryd.prog = true := by kernel_rfl

set_option maxRecDepth 100000 in
set_option maxHeartbeats 4000000 in
theorem walk {w : World} (A0 : Option Addr) (n0 c0 : Nat) (f0 g0 : Nat → Int) (s0 : Pts w A0 n0 c0 f0 g0) (hT : TabM w) :
    Calls Tryd.prog 17 #[.slice A0 n0 c0] w fun e w' => e = .returned (.bool true) ∧ Below w.heap.size w w' := by
  have HB0 := Lib.hid (Below.refl w.heap.size w)
  have FT := Lib.hid hT; clear hT
  have FX := Lib.hid s0; have hm0 := Nat.le_trans s0.cap s0.max; clear s0
  cases hv : validP f0 g0 n0
  · have HV := Lib.hid hv; clear hv
    go_enter Tryd.func17, Tryd.ntmps17
    go_wp2_with fail
    refine (ref14_Valid _ n0 _ f0 g0 _ FX.out).mono ?_
    rintro e w1 ⟨rfl, B⟩
    have HB1 := Lib.hid (HB0.out.trans (B.mono HB0.out.size))
    have FT_1 := Lib.hid (FT.out.below B (Nat.le_refl _))
    have FX_1 := Lib.hid (FX.out.below B (Nat.le_refl _))
    clear B  HB0 FT FX
    rw [HV.out]
    go_wp2_with fail
    refine (alive14 _ FT_1.out).mono ?_
    rintro e w2 ⟨rfl, B⟩
    have HB2 := Lib.hid (HB1.out.trans (B.mono HB1.out.size))
    have FT_2 := Lib.hid (FT_1.out.below B (Nat.le_refl _))
    have FX_2 := Lib.hid (FX_1.out.below B (Nat.le_refl _))
    clear B  HB1 FT_1 FX_1
    go_wp2_with fail
    go_ret
    exact ⟨rfl, HB2.out⟩
  have HV := Lib.hid hv; have hin := (validP_iff.1 hv).1; have hs0 := (validP_iff.1 hv).2.1; have hn3 := hin.1; have hn64 := hin.2; have HS0 := Lib.hid hs0; clear hv hin hs0
  obtain ⟨b, off, rfl⟩ := FX.out.some (by omega)
  have hnz : ¬ (n0 = 0) := by omega
  go_enter Tryd.func17, Tryd.ntmps17
  go_wp2_with fail
  refine (ref14_Valid _ n0 _ f0 g0 _ FX.out).mono ?_
  rintro e w1 ⟨rfl, B⟩
  have HB1 := Lib.hid (HB0.out.trans (B.mono HB0.out.size))
  have FT_1 := Lib.hid (FT.out.below B (Nat.le_refl _))
  have FX_1 := Lib.hid (FX.out.below B (Nat.le_refl _))
  clear B  HB0 FT FX
  rw [HV.out]
  go_wp2_with fail
  go_loopw [12] (fun i wr => ∃ k : Nat, k ≤ n0 ∧ i = .int .i64 (k : Int) ∧ Below w1.heap.size w1 wr) (fun i _ => n0 - (intOf i).toNat)
  case atStart => exact ⟨0, Nat.zero_le _, rfl, Below.refl _ _⟩
  case round =>
    obtain ⟨k, hk, rfl, hb⟩ := hrel
    have HBR := Lib.hid hb; clear hb
    by_cases hlt : k < n0
    · have hn1k : n0 ≤ 1000 := by omega
      have hk1k : k ≤ 900 := by omega
      have ka_ : (k + 1) % n0 < n0 := Nat.mod_lt _ (by omega)
      have kb_ : (k + 2) % n0 < n0 := Nat.mod_lt _ (by omega)
      obtain ⟨w1_, w3_⟩ := wrapN1 hk1k
      obtain ⟨w2_, w4_⟩ := wrapN2 hk1k
      obtain ⟨wa_, wc_⟩ := wrapN (Nat.le_trans (Nat.le_of_lt ka_) hn1k)
      obtain ⟨wb_, wd_⟩ := wrapN (Nat.le_trans (Nat.le_of_lt kb_) hn1k)
      have ma_ : ((k : Int) + 1).tmod (n0 : Int) = (((k + 1) % n0 : Nat) : Int) := by rw [Int.tmod_eq_emod_of_nonneg (by omega)]; simp
      have mb_ : ((k : Int) + 2).tmod (n0 : Int) = (((k + 2) % n0 : Nat) : Int) := by rw [Int.tmod_eq_emod_of_nonneg (by omega)]; simp
      clear hn1k hk1k
      have hms := Lib.hid (meas_ hlt)
      have hpos := Lib.hid (show (.int .i64 ((k : Int) + 1) : Value) = .int .i64 ((k + 1 : Nat) : Int) from by simp)
      have HLO := Lib.hid (loc_vert HV.out hlt)
      have htr := tri_sg HV.out hlt
      have HP3 := Lib.hid (isIP FX_1.out hlt ka_ kb_)
      have FXr := Lib.hid (FX_1.out.below HBR.out (Nat.le_refl _)); have FTr := Lib.hid (FT_1.out.below HBR.out (Nat.le_refl _))
      have hE := FXr.out.one hlt; have FE := Lib.hid hE; have FG := Lib.hid (FXr.out.one ka_); have FH := Lib.hid (FXr.out.one kb_)
      generalize (k + 1) % n0 = ka at *
      generalize (k + 2) % n0 = kb at *
      have HTV := Lib.hid (valid_tri (by rw [htr]; exact HS0.out))
      have HTO := Lib.hid ((ori_tri (f0 k) (g0 k) (f0 ka) (g0 ka) (f0 kb) (g0 kb)).trans htr)
      clear htr
      have c1 := hE.x; have c2 := hE.y; clear hE
      have HS := Lib.hid (Below.refl wr.heap.size wr)
      have hi := isIP2 FXr.out hlt hlt (FXr.out.isi k hlt).1 (FXr.out.isi k hlt).2
      go_wp2_with fail
      clear c1 c2
      have B : Below wr.heap.size wr (wr.alloc (.cells #[.int .i64 (f0 k), .int .i64 (g0 k)] 28)) := (HS.out.alloc HS.out.size _)
      have C : Below wr.heap.size wr (wr.alloc (.cells #[.int .i64 (f0 k), .int .i64 (g0 k)] 28)) := ((Below.refl wr.heap.size wr).alloc (Nat.le_refl _) _)
      have X0 : Bx (wr.alloc (.cells #[.int .i64 (f0 k), .int .i64 (g0 k)] 28)) (wr.heap.size) #[.int .i64 (f0 k), .int .i64 (g0 k)] 28 := by simpa using (Bx.new wr #[.int .i64 (f0 k), .int .i64 (g0 k)] 28)
      have FT_11 := Lib.hid (FTr.out.below C (Nat.le_refl _))
      have FX_11 := Lib.hid (FXr.out.below C (Nat.le_refl _))
      have FE_11 := Lib.hid (FE.out.below C (Nat.le_refl _))
      have FG_11 := Lib.hid (FG.out.below C (Nat.le_refl _))
      have FH_11 := Lib.hid (FH.out.below C (Nat.le_refl _))
      have HB11 := Lib.hid B
      have FP_11 := Lib.hid X0
      clear B C X0 HS FTr FXr FE FG FH
      generalize (wr.alloc (.cells #[.int .i64 (f0 k), .int .i64 (g0 k)] 28)) = w11 at *
      skip
      refine (polygon_Locate _ n0 _ f0 g0 _ _ hi.e hi.f _ FT_11.out FX_11.out).mono ?_
      rintro e w12 ⟨rfl, B⟩
      have HB12 := Lib.hid (HB11.out.trans (B.mono HB11.out.size))
      have FT_12 := Lib.hid (FT_11.out.below B (Nat.le_refl _))
      have FX_12 := Lib.hid (FX_11.out.below B (Nat.le_refl _))
      have FE_12 := Lib.hid (FE_11.out.below B (Nat.le_refl _))
      have FG_12 := Lib.hid (FG_11.out.below B (Nat.le_refl _))
      have FH_12 := Lib.hid (FH_11.out.below B (Nat.le_refl _))
      have FP_12 := Lib.hid (FP_11.out.below B (Nat.le_refl _))
      clear B  HB11 FT_11 FX_11 FE_11 FG_11 FH_11 FP_11
      rw [HLO.out]
      go_wp2_with fail
      refine (wpIn_wide (n := 0)).1 ?_
      refine wpIn_region_any (by kernel_rfl) ?_
      change wpAnyIn _ _ _ _ _ _ _ _ _ (World.drew _)
      have RB12 := Lib.hid (below_drew0 w12)
      refine wpAnyIn_tail WideF.wide (fun a b => Below a.heap.size a b) (fun _ => below_rf) (fun _ _ _ h k => below_tr h k) [⟨0, 21, fun z_ _ => z_ = .agg #[.int .i64 (f0 k), .int .i64 (g0 k)]⟩, ⟨1, 22, fun z_ _ => z_ = .slice (some ⟨b, off, none⟩) n0 c0⟩, ⟨2, 23, fun z_ _ => z_ = .int .i64 (k : Int)⟩, ⟨3, 24, fun z_ _ => z_ = .int .i64 ((k : Int) + 1)⟩, ⟨4, 25, fun z_ _ => z_ = .slice (some ⟨b, off, none⟩) n0 c0⟩, ⟨5, 26, fun z_ _ => z_ = .int .i64 (n0 : Int)⟩, ⟨6, 27, fun z_ _ => z_ = .int .i64 (ka : Int)⟩, ⟨7, 28, fun z_ _ => z_ = .pointer (some ⟨b, off + ka * 2, none⟩)⟩, ⟨8, 29, fun z_ _ => z_ = .agg #[.int .i64 (f0 ka), .int .i64 (g0 ka)]⟩, ⟨9, 30, fun z_ _ => z_ = .slice (some ⟨b, off, none⟩) n0 c0⟩, ⟨10, 31, fun z_ _ => z_ = .int .i64 (k : Int)⟩, ⟨11, 32, fun z_ _ => z_ = .int .i64 ((k : Int) + 2)⟩, ⟨12, 33, fun z_ _ => z_ = .slice (some ⟨b, off, none⟩) n0 c0⟩, ⟨13, 34, fun z_ _ => z_ = .int .i64 (n0 : Int)⟩, ⟨14, 35, fun z_ _ => z_ = .int .i64 (kb : Int)⟩, ⟨15, 36, fun z_ _ => z_ = .pointer (some ⟨b, off + kb * 2, none⟩)⟩, ⟨16, 37, fun z_ _ => z_ = .agg #[.int .i64 (f0 kb), .int .i64 (g0 kb)]⟩, ⟨17, 38, fun x w => ∃ b_ : Nat, x = .slice (some ⟨b_, 0, none⟩) 3 3 ∧ Bx w b_ #[.int .i64 (f0 k), .int .i64 (g0 k), .int .i64 (f0 ka), .int .i64 (g0 ka), .int .i64 (f0 kb), .int .i64 (g0 kb)] 28⟩, ⟨18, 5, fun x w => ∃ b_ : Nat, x = .slice (some ⟨b_, 0, none⟩) 3 3 ∧ Bx w b_ #[.int .i64 (f0 k), .int .i64 (g0 k), .int .i64 (f0 ka), .int .i64 (g0 ka), .int .i64 (f0 kb), .int .i64 (g0 kb)] 28⟩] 19 (by kernel_rfl) ?_ ?_ ?_
      · refine ⟨?_, ?_, ?_, ?_, ?_, ?_, ?_, ?_, ?_, ?_, ?_, ?_, ?_, ?_, ?_, ?_, ?_, ?_, ?_, trivial⟩
        all_goals (intro x w w' hb h; first | exact h | (obtain ⟨b_, h1, h2⟩ := h; exact ⟨b_, h1, h2.below hb (Nat.le_refl _)⟩))
      · refine ⟨?_, ?_, ?_, ?_, ?_, ?_, ?_, ?_, ?_, ?_, ?_, ?_, ?_, ?_, ?_, ?_, ?_, ?_, ?_, trivial⟩
        · intro a wz K hb ht hd hK
          have hbw := Lib.hid (below_tr RB12.out hb); clear hb
          have hx4 := (ht 4 rfl).trans rfl
          have es4 : a.tmps.getD 4 undef = _ := getD_of hx4; clear hx4
          clear ht hd
          have zc0 := (FP_12.out.below hbw.out (Nat.le_refl _)).cell 0 (v := .int .i64 (f0 k)) rfl
          have zc1 := (FP_12.out.below hbw.out (Nat.le_refl _)).cell 1 (v := .int .i64 (g0 k)) rfl
          have HK := Lib.hid hK; clear hK
          refine wpOpP_step (by simp only [List.getElem?_toArray, List.getElem?_cons_succ, List.getElem?_cons_zero]; rfl) (fun K' hK' => ?_)
          have HK' := Lib.hid hK'; clear hK'
          go_simp
          exact HK'.out _ _ (HK.out _ _ below_rf rfl)
        · intro a wz K hb ht hd hK
          have hbw := Lib.hid (below_tr RB12.out hb); clear hb
          have hx0 := (ht 0 rfl).trans rfl
          have es0 : a.tmps.getD 0 undef = _ := getD_of hx0; clear hx0
          clear ht hd
          have HK := Lib.hid hK; clear hK
          refine wpOpP_step (by simp only [List.getElem?_toArray, List.getElem?_cons_succ, List.getElem?_cons_zero]; rfl) (fun K' hK' => ?_)
          have HK' := Lib.hid hK'; clear hK'
          go_simp
          exact HK'.out _ _ (HK.out _ _ below_rf rfl)
        · intro a wz K hb ht hd hK
          have hbw := Lib.hid (below_tr RB12.out hb); clear hb
          have hx3 := (ht 3 rfl).trans rfl
          have es3 : a.tmps.getD 3 undef = _ := getD_of hx3; clear hx3
          clear ht hd
          have HK := Lib.hid hK; clear hK
          refine wpOpP_step (by simp only [List.getElem?_toArray, List.getElem?_cons_succ, List.getElem?_cons_zero]; rfl) (fun K' hK' => ?_)
          have HK' := Lib.hid hK'; clear hK'
          go_simp
          exact HK'.out _ _ (HK.out _ _ below_rf rfl)
        · intro a wz K hb ht hd hK
          have hbw := Lib.hid (below_tr RB12.out hb); clear hb
          obtain ⟨x23, hx23, hp23⟩ := hd 2 _ rfl (by kernel_rfl)
          obtain rfl := hp23
          have es23 : a.tmps.getD 23 undef = _ := getD_of hx23; clear hx23
          clear ht hd
          have HK := Lib.hid hK; clear hK
          refine wpOpP_step (by simp only [List.getElem?_toArray, List.getElem?_cons_succ, List.getElem?_cons_zero]; rfl) (fun K' hK' => ?_)
          have HK' := Lib.hid hK'; clear hK'
          go_simp
          exact HK'.out _ _ (HK.out _ _ below_rf rfl)
        · intro a wz K hb ht hd hK
          have hbw := Lib.hid (below_tr RB12.out hb); clear hb
          have hx0 := (ht 0 rfl).trans rfl
          have es0 : a.tmps.getD 0 undef = _ := getD_of hx0; clear hx0
          clear ht hd
          have HK := Lib.hid hK; clear hK
          refine wpOpP_step (by simp only [List.getElem?_toArray, List.getElem?_cons_succ, List.getElem?_cons_zero]; rfl) (fun K' hK' => ?_)
          have HK' := Lib.hid hK'; clear hK'
          go_simp
          exact HK'.out _ _ (HK.out _ _ below_rf rfl)
        · intro a wz K hb ht hd hK
          have hbw := Lib.hid (below_tr RB12.out hb); clear hb
          obtain ⟨x25, hx25, hp25⟩ := hd 4 _ rfl (by kernel_rfl)
          obtain rfl := hp25
          have es25 : a.tmps.getD 25 undef = _ := getD_of hx25; clear hx25
          clear ht hd
          have HK := Lib.hid hK; clear hK
          refine wpOpP_step (by simp only [List.getElem?_toArray, List.getElem?_cons_succ, List.getElem?_cons_zero]; rfl) (fun K' hK' => ?_)
          have HK' := Lib.hid hK'; clear hK'
          go_simp
          exact HK'.out _ _ (HK.out _ _ below_rf rfl)
        · intro a wz K hb ht hd hK
          have hbw := Lib.hid (below_tr RB12.out hb); clear hb
          obtain ⟨x24, hx24, hp24⟩ := hd 3 _ rfl (by kernel_rfl)
          obtain rfl := hp24
          have es24 : a.tmps.getD 24 undef = _ := getD_of hx24; clear hx24
          obtain ⟨x26, hx26, hp26⟩ := hd 5 _ rfl (by kernel_rfl)
          obtain rfl := hp26
          have es26 : a.tmps.getD 26 undef = _ := getD_of hx26; clear hx26
          clear ht hd
          have HK := Lib.hid hK; clear hK
          refine wpOpP_step (by simp only [List.getElem?_toArray, List.getElem?_cons_succ, List.getElem?_cons_zero]; rfl) (fun K' hK' => ?_)
          have HK' := Lib.hid hK'; clear hK'
          go_simp
          exact HK'.out _ _ (HK.out _ _ below_rf rfl)
        · intro a wz K hb ht hd hK
          have hbw := Lib.hid (below_tr RB12.out hb); clear hb
          obtain ⟨x22, hx22, hp22⟩ := hd 1 _ rfl (by kernel_rfl)
          obtain rfl := hp22
          have es22 : a.tmps.getD 22 undef = _ := getD_of hx22; clear hx22
          obtain ⟨x27, hx27, hp27⟩ := hd 6 _ rfl (by kernel_rfl)
          obtain rfl := hp27
          have es27 : a.tmps.getD 27 undef = _ := getD_of hx27; clear hx27
          clear ht hd
          have HK := Lib.hid hK; clear hK
          refine wpOpP_step (by simp only [List.getElem?_toArray, List.getElem?_cons_succ, List.getElem?_cons_zero]; rfl) (fun K' hK' => ?_)
          have HK' := Lib.hid hK'; clear hK'
          go_simp
          exact HK'.out _ _ (HK.out _ _ below_rf rfl)
        · intro a wz K hb ht hd hK
          have hbw := Lib.hid (below_tr RB12.out hb); clear hb
          obtain ⟨x28, hx28, hp28⟩ := hd 7 _ rfl (by kernel_rfl)
          obtain rfl := hp28
          have es28 : a.tmps.getD 28 undef = _ := getD_of hx28; clear hx28
          clear ht hd
          have zc0 := (FG_12.out.below hbw.out (Nat.le_refl _)).x
          have zc1 := (FG_12.out.below hbw.out (Nat.le_refl _)).y
          have HK := Lib.hid hK; clear hK
          refine wpOpP_step (by simp only [List.getElem?_toArray, List.getElem?_cons_succ, List.getElem?_cons_zero]; rfl) (fun K' hK' => ?_)
          have HK' := Lib.hid hK'; clear hK'
          go_simp
          exact HK'.out _ _ (HK.out _ _ below_rf rfl)
        · intro a wz K hb ht hd hK
          have hbw := Lib.hid (below_tr RB12.out hb); clear hb
          have hx0 := (ht 0 rfl).trans rfl
          have es0 : a.tmps.getD 0 undef = _ := getD_of hx0; clear hx0
          clear ht hd
          have HK := Lib.hid hK; clear hK
          refine wpOpP_step (by simp only [List.getElem?_toArray, List.getElem?_cons_succ, List.getElem?_cons_zero]; rfl) (fun K' hK' => ?_)
          have HK' := Lib.hid hK'; clear hK'
          go_simp
          exact HK'.out _ _ (HK.out _ _ below_rf rfl)
        · intro a wz K hb ht hd hK
          have hbw := Lib.hid (below_tr RB12.out hb); clear hb
          have hx3 := (ht 3 rfl).trans rfl
          have es3 : a.tmps.getD 3 undef = _ := getD_of hx3; clear hx3
          clear ht hd
          have HK := Lib.hid hK; clear hK
          refine wpOpP_step (by simp only [List.getElem?_toArray, List.getElem?_cons_succ, List.getElem?_cons_zero]; rfl) (fun K' hK' => ?_)
          have HK' := Lib.hid hK'; clear hK'
          go_simp
          exact HK'.out _ _ (HK.out _ _ below_rf rfl)
        · intro a wz K hb ht hd hK
          have hbw := Lib.hid (below_tr RB12.out hb); clear hb
          obtain ⟨x31, hx31, hp31⟩ := hd 10 _ rfl (by kernel_rfl)
          obtain rfl := hp31
          have es31 : a.tmps.getD 31 undef = _ := getD_of hx31; clear hx31
          clear ht hd
          have HK := Lib.hid hK; clear hK
          refine wpOpP_step (by simp only [List.getElem?_toArray, List.getElem?_cons_succ, List.getElem?_cons_zero]; rfl) (fun K' hK' => ?_)
          have HK' := Lib.hid hK'; clear hK'
          go_simp
          exact HK'.out _ _ (HK.out _ _ below_rf rfl)
        · intro a wz K hb ht hd hK
          have hbw := Lib.hid (below_tr RB12.out hb); clear hb
          have hx0 := (ht 0 rfl).trans rfl
          have es0 : a.tmps.getD 0 undef = _ := getD_of hx0; clear hx0
          clear ht hd
          have HK := Lib.hid hK; clear hK
          refine wpOpP_step (by simp only [List.getElem?_toArray, List.getElem?_cons_succ, List.getElem?_cons_zero]; rfl) (fun K' hK' => ?_)
          have HK' := Lib.hid hK'; clear hK'
          go_simp
          exact HK'.out _ _ (HK.out _ _ below_rf rfl)
        · intro a wz K hb ht hd hK
          have hbw := Lib.hid (below_tr RB12.out hb); clear hb
          obtain ⟨x33, hx33, hp33⟩ := hd 12 _ rfl (by kernel_rfl)
          obtain rfl := hp33
          have es33 : a.tmps.getD 33 undef = _ := getD_of hx33; clear hx33
          clear ht hd
          have HK := Lib.hid hK; clear hK
          refine wpOpP_step (by simp only [List.getElem?_toArray, List.getElem?_cons_succ, List.getElem?_cons_zero]; rfl) (fun K' hK' => ?_)
          have HK' := Lib.hid hK'; clear hK'
          go_simp
          exact HK'.out _ _ (HK.out _ _ below_rf rfl)
        · intro a wz K hb ht hd hK
          have hbw := Lib.hid (below_tr RB12.out hb); clear hb
          obtain ⟨x32, hx32, hp32⟩ := hd 11 _ rfl (by kernel_rfl)
          obtain rfl := hp32
          have es32 : a.tmps.getD 32 undef = _ := getD_of hx32; clear hx32
          obtain ⟨x34, hx34, hp34⟩ := hd 13 _ rfl (by kernel_rfl)
          obtain rfl := hp34
          have es34 : a.tmps.getD 34 undef = _ := getD_of hx34; clear hx34
          clear ht hd
          have HK := Lib.hid hK; clear hK
          refine wpOpP_step (by simp only [List.getElem?_toArray, List.getElem?_cons_succ, List.getElem?_cons_zero]; rfl) (fun K' hK' => ?_)
          have HK' := Lib.hid hK'; clear hK'
          go_simp
          exact HK'.out _ _ (HK.out _ _ below_rf rfl)
        · intro a wz K hb ht hd hK
          have hbw := Lib.hid (below_tr RB12.out hb); clear hb
          obtain ⟨x30, hx30, hp30⟩ := hd 9 _ rfl (by kernel_rfl)
          obtain rfl := hp30
          have es30 : a.tmps.getD 30 undef = _ := getD_of hx30; clear hx30
          obtain ⟨x35, hx35, hp35⟩ := hd 14 _ rfl (by kernel_rfl)
          obtain rfl := hp35
          have es35 : a.tmps.getD 35 undef = _ := getD_of hx35; clear hx35
          clear ht hd
          have HK := Lib.hid hK; clear hK
          refine wpOpP_step (by simp only [List.getElem?_toArray, List.getElem?_cons_succ, List.getElem?_cons_zero]; rfl) (fun K' hK' => ?_)
          have HK' := Lib.hid hK'; clear hK'
          go_simp
          exact HK'.out _ _ (HK.out _ _ below_rf rfl)
        · intro a wz K hb ht hd hK
          have hbw := Lib.hid (below_tr RB12.out hb); clear hb
          obtain ⟨x36, hx36, hp36⟩ := hd 15 _ rfl (by kernel_rfl)
          obtain rfl := hp36
          have es36 : a.tmps.getD 36 undef = _ := getD_of hx36; clear hx36
          clear ht hd
          have zc0 := (FH_12.out.below hbw.out (Nat.le_refl _)).x
          have zc1 := (FH_12.out.below hbw.out (Nat.le_refl _)).y
          have HK := Lib.hid hK; clear hK
          refine wpOpP_step (by simp only [List.getElem?_toArray, List.getElem?_cons_succ, List.getElem?_cons_zero]; rfl) (fun K' hK' => ?_)
          have HK' := Lib.hid hK'; clear hK'
          go_simp
          exact HK'.out _ _ (HK.out _ _ below_rf rfl)
        · intro a wz K hb ht hd hK
          have hbw := Lib.hid (below_tr RB12.out hb); clear hb
          obtain ⟨x21, hx21, hp21⟩ := hd 0 _ rfl (by kernel_rfl)
          obtain rfl := hp21
          have es21 : a.tmps.getD 21 undef = _ := getD_of hx21; have et21 := getO_of hx21; clear hx21
          obtain ⟨x29, hx29, hp29⟩ := hd 8 _ rfl (by kernel_rfl)
          obtain rfl := hp29
          have es29 : a.tmps.getD 29 undef = _ := getD_of hx29; have et29 := getO_of hx29; clear hx29
          obtain ⟨x37, hx37, hp37⟩ := hd 16 _ rfl (by kernel_rfl)
          obtain rfl := hp37
          have es37 : a.tmps.getD 37 undef = _ := getD_of hx37; have et37 := getO_of hx37; clear hx37
          clear ht hd
          have HK := Lib.hid hK; clear hK
          refine wpOpP_step (by simp only [List.getElem?_toArray, List.getElem?_cons_succ, List.getElem?_cons_zero]; rfl) (fun K' hK' => ?_)
          have HK' := Lib.hid hK'; clear hK'
          go_simp
          exact HK'.out _ _ (HK.out _ _ (below_al below_rf) ⟨_, rfl, Bx.new _ _ _⟩)
        · intro a wz K hb ht hd hK
          have hbw := Lib.hid (below_tr RB12.out hb); clear hb
          obtain ⟨x38, hx38, hp38⟩ := hd 17 _ rfl (by kernel_rfl)
          obtain ⟨b17, rfl, S17⟩ := hp38
          have es38 : a.tmps.getD 38 undef = _ := getD_of hx38; clear hx38
          clear ht hd
          have HK := Lib.hid hK; clear hK
          refine wpOpP_step (by simp only [List.getElem?_toArray, List.getElem?_cons_succ, List.getElem?_cons_zero]; rfl) (fun K' hK' => ?_)
          have HK' := Lib.hid hK'; clear hK'
          go_simp
          exact HK'.out _ _ (HK.out _ _ below_rf ⟨b17, rfl, S17⟩)
      intro w13 X hb hv
      simp only [List.foldl_cons, List.foldl_nil, Act.put, List.setIfInBounds_toArray, List.set_cons_zero, List.set_cons_succ, List.toList_toArray, List.drop_succ_cons, List.drop_zero]
      obtain ⟨hv0, hv1, hv2, hv3, hv4, hv5, hv6, hv7, hv8, hv9, hv10, hv11, hv12, hv13, hv14, hv15, hv16, hv17, hv18, -⟩ := hv
      have hV0 : (fun z_ _ => z_ = .agg #[.int .i64 (f0 k), .int .i64 (g0 k)]) (X 21) w13 := hv0; clear hv0; have hv0 := hV0; clear hV0; generalize X 21 = X21 at *
      have hV1 : (fun z_ _ => z_ = .slice (some ⟨b, off, none⟩) n0 c0) (X 22) w13 := hv1; clear hv1; have hv1 := hV1; clear hV1; generalize X 22 = X22 at *
      have hV2 : (fun z_ _ => z_ = .int .i64 (k : Int)) (X 23) w13 := hv2; clear hv2; have hv2 := hV2; clear hV2; generalize X 23 = X23 at *
      have hV3 : (fun z_ _ => z_ = .int .i64 ((k : Int) + 1)) (X 24) w13 := hv3; clear hv3; have hv3 := hV3; clear hV3; generalize X 24 = X24 at *
      have hV4 : (fun z_ _ => z_ = .slice (some ⟨b, off, none⟩) n0 c0) (X 25) w13 := hv4; clear hv4; have hv4 := hV4; clear hV4; generalize X 25 = X25 at *
      have hV5 : (fun z_ _ => z_ = .int .i64 (n0 : Int)) (X 26) w13 := hv5; clear hv5; have hv5 := hV5; clear hV5; generalize X 26 = X26 at *
      have hV6 : (fun z_ _ => z_ = .int .i64 (ka : Int)) (X 27) w13 := hv6; clear hv6; have hv6 := hV6; clear hV6; generalize X 27 = X27 at *
      have hV7 : (fun z_ _ => z_ = .pointer (some ⟨b, off + ka * 2, none⟩)) (X 28) w13 := hv7; clear hv7; have hv7 := hV7; clear hV7; generalize X 28 = X28 at *
      have hV8 : (fun z_ _ => z_ = .agg #[.int .i64 (f0 ka), .int .i64 (g0 ka)]) (X 29) w13 := hv8; clear hv8; have hv8 := hV8; clear hV8; generalize X 29 = X29 at *
      have hV9 : (fun z_ _ => z_ = .slice (some ⟨b, off, none⟩) n0 c0) (X 30) w13 := hv9; clear hv9; have hv9 := hV9; clear hV9; generalize X 30 = X30 at *
      have hV10 : (fun z_ _ => z_ = .int .i64 (k : Int)) (X 31) w13 := hv10; clear hv10; have hv10 := hV10; clear hV10; generalize X 31 = X31 at *
      have hV11 : (fun z_ _ => z_ = .int .i64 ((k : Int) + 2)) (X 32) w13 := hv11; clear hv11; have hv11 := hV11; clear hV11; generalize X 32 = X32 at *
      have hV12 : (fun z_ _ => z_ = .slice (some ⟨b, off, none⟩) n0 c0) (X 33) w13 := hv12; clear hv12; have hv12 := hV12; clear hV12; generalize X 33 = X33 at *
      have hV13 : (fun z_ _ => z_ = .int .i64 (n0 : Int)) (X 34) w13 := hv13; clear hv13; have hv13 := hV13; clear hV13; generalize X 34 = X34 at *
      have hV14 : (fun z_ _ => z_ = .int .i64 (kb : Int)) (X 35) w13 := hv14; clear hv14; have hv14 := hV14; clear hV14; generalize X 35 = X35 at *
      have hV15 : (fun z_ _ => z_ = .pointer (some ⟨b, off + kb * 2, none⟩)) (X 36) w13 := hv15; clear hv15; have hv15 := hV15; clear hV15; generalize X 36 = X36 at *
      have hV16 : (fun z_ _ => z_ = .agg #[.int .i64 (f0 kb), .int .i64 (g0 kb)]) (X 37) w13 := hv16; clear hv16; have hv16 := hV16; clear hV16; generalize X 37 = X37 at *
      have hV17 : (fun x w => ∃ b_ : Nat, x = .slice (some ⟨b_, 0, none⟩) 3 3 ∧ Bx w b_ #[.int .i64 (f0 k), .int .i64 (g0 k), .int .i64 (f0 ka), .int .i64 (g0 ka), .int .i64 (f0 kb), .int .i64 (g0 kb)] 28) (X 38) w13 := hv17; clear hv17; have hv17 := hV17; clear hV17; generalize X 38 = X38 at *
      have hV18 : (fun x w => ∃ b_ : Nat, x = .slice (some ⟨b_, 0, none⟩) 3 3 ∧ Bx w b_ #[.int .i64 (f0 k), .int .i64 (g0 k), .int .i64 (f0 ka), .int .i64 (g0 ka), .int .i64 (f0 kb), .int .i64 (g0 kb)] 28) (X 5) w13 := hv18; clear hv18; have hv18 := hV18; clear hV18; generalize X 5 = X5 at *
      obtain rfl := hv0
      obtain rfl := hv1
      obtain rfl := hv2
      obtain rfl := hv3
      obtain rfl := hv4
      obtain rfl := hv5
      obtain rfl := hv6
      obtain rfl := hv7
      obtain rfl := hv8
      obtain rfl := hv9
      obtain rfl := hv10
      obtain rfl := hv11
      obtain rfl := hv12
      obtain rfl := hv13
      obtain rfl := hv14
      obtain rfl := hv15
      obtain rfl := hv16
      clear hv17
      obtain ⟨b18, rfl, S18⟩ := hv18
      have RC := Lib.hid (below_tr RB12.out hb); clear hb
      have FT_13 := Lib.hid (FT_12.out.below RC.out (Nat.le_refl _))
      have FX_13 := Lib.hid (FX_12.out.below RC.out (Nat.le_refl _))
      have FE_13 := Lib.hid (FE_12.out.below RC.out (Nat.le_refl _))
      have FG_13 := Lib.hid (FG_12.out.below RC.out (Nat.le_refl _))
      have FH_13 := Lib.hid (FH_12.out.below RC.out (Nat.le_refl _))
      have FP_13 := Lib.hid (FP_12.out.below RC.out (Nat.le_refl _))
      have HB13 := Lib.hid (HB12.out.trans (RC.out.mono HB12.out.size))
      clear HB12 FT_12 FX_12 FE_12 FG_12 FH_12 FP_12 RB12
      have FW := Lib.hid S18; clear S18
      refine wpListIn_nil ?_
      have HPT := Lib.hid (FW.out.pts3 HP3.out)
      go_wp2_with fail
      refine (polygon_Valid _ 3 _ _ _ _ FT_13.out HPT.out).mono ?_
      rintro e w14 ⟨rfl, B⟩
      have HB14 := Lib.hid (HB13.out.trans (B.mono HB13.out.size))
      have FT_14 := Lib.hid (FT_13.out.below B (Nat.le_refl _))
      have FX_14 := Lib.hid (FX_13.out.below B (Nat.le_refl _))
      have FW_14 := Lib.hid (HPT.out.below B (Nat.le_refl _))
      clear B  HB13 FT_13 FX_13 HPT
      rw [HTV.out, show msk true = 18446744073709551615 from rfl]
      go_wp2_with fail
      refine (polygon_Orientation _ 3 _ _ _ _ FT_14.out FW_14.out).mono ?_
      rintro e w15 ⟨rfl, B⟩
      have HB15 := Lib.hid (HB14.out.trans (B.mono HB14.out.size))
      have FT_15 := Lib.hid (FT_14.out.below B (Nat.le_refl _))
      have FX_15 := Lib.hid (FX_14.out.below B (Nat.le_refl _))
      have FW_15 := Lib.hid (FW_14.out.below B (Nat.le_refl _))
      clear B  HB14 FT_14 FX_14 FW_14
      rw [HTO.out]
      go_wp2_with fail
      refine (polygon_Orientation _ n0 _ f0 g0 _ FT_15.out FX_15.out).mono ?_
      rintro e w16 ⟨rfl, B⟩
      have HB16 := Lib.hid (HB15.out.trans (B.mono HB15.out.size))
      have FT_16 := Lib.hid (FT_15.out.below B (Nat.le_refl _))
      have FX_16 := Lib.hid (FX_15.out.below B (Nat.le_refl _))
      have FW_16 := Lib.hid (FW_15.out.below B (Nat.le_refl _))
      clear B  HB15 FT_15 FX_15 FW_15
      go_wp2_with fail
      go_roundw
      case rel => exact ⟨k + 1, hlt, hpos.out, HBR.out.trans (HB16.out.mono HBR.out.size)⟩
      case measure => exact hms.out
    · have HB_ := Lib.hid (HB1.out.trans (HBR.out.mono HB1.out.size))
      have hkn : ¬ ((k : Int) < n0) := by omega
      have FTq := Lib.hid (FT_1.out.below HBR.out (Nat.le_refl _))
      go_wp2_with fail
      refine (alive14 _ FTq.out).mono ?_
      rintro e w31 ⟨rfl, B⟩
      have HB31 := Lib.hid (HB_.out.trans (B.mono HB_.out.size))
      have FT_31 := Lib.hid (FTq.out.below B (Nat.le_refl _))
      clear B  HB_ FTq
      go_wp2_with fail
      go_ret
      exact ⟨rfl, HB31.out⟩

theorem gTab0 : Tryd.prog.globalNamed "geofence/mask.words" = some 0 := by kernel_rfl
theorem gTabType0 : (Tryd.prog.globals[0]?).map (·.type) = some 93 := by kernel_rfl
theorem cellsT0 : Tryd.prog.cellsOf 93 = 2 := by kernel_rfl
theorem cellsE0 : Tryd.prog.cellsOf 23 = 1 := by kernel_rfl
theorem tableIs0 {W : World} (h : laidMetH Tryd.prog Rows.polygonVerticesRow.laid W) : Lib.TabIs Tryd.prog W "geofence/mask.words" .u64 [9223372036854775808, 18446744073709551615] :=
  Lib.tabIs_of_head (rest := _) gTab0 gTabType0 Tryd.underlying93 Tryd.underlying23 cellsE0 cellsT0 h
theorem table0 {W : World} (h : laidMetH Tryd.prog Rows.polygonVerticesRow.laid W) : TabM W := ⟨(tableIs0 h).cell gTab0 0 (by decide), (tableIs0 h).cell gTab0 1 (by decide)⟩

set_option maxRecDepth 100000 in
theorem contract (H : Type) (enc : TypeId × Value → H) (W : World) (base : Nat) (args : Array Value) (ds gs : List (DataW H)) (before : List MemPlace)
    (hval : ∀ (j : Nat) t v, Tryd.f17.params[j]? = some t → args[j]? = some v → Value.okWide Tryd.prog W .any base t v)
    (hW : DataW.Whole enc Tryd.prog Tryd.f17.params.toList Rows.polygonVerticesSpec.vars false W args.toList ds gs before) (hL : laidMetH Tryd.prog Rows.polygonVerticesRow.laid W) :
    Calls Tryd.prog 17 args W fun e W' => ∃ v, e = .returned v ∧ Rows.polygonVerticesSpec.post enc Tryd.prog Tryd.f17 false true false false W args v W' := by
  have hW' := hW
  obtain ⟨p, q, hA0, hV, rfl, hfz, hnd⟩ := hW
  have hA : DataW.TrodAll enc Tryd.prog W 0 (fun _ => true) true Tryd.f17.params.toList args.toList ds p := hA0
  rw [Tryd.params17] at hA hval
  obtain ⟨v0, vs0, d0, ds0, p0, q0, hargs, rfl, rfl, h0, r0⟩ := trodAll_cons hA
  obtain ⟨rfl, rfl, rfl⟩ := trodAll_nil r0
  obtain rfl : args = #[v0] := by cases args; simp_all
  obtain ⟨rfl, rfl⟩ := trodVars_none hV
  have k0 := h0
  have lt0 : ∀ x ∈ p0, x.block < W.heap.size := by obtain ⟨m, hm⟩ := k0; exact DataW.trod_lt m _ _ _ hm
  obtain ⟨A0, n0, c0, rfl⟩ := okWide_slice Tryd.underlying35 (hval 0 35 v0 rfl rfl)
  obtain ⟨f0, g0, s0⟩ := Op.open_ptsl (w := W) Tryd.underlying35 Tryd.underlying28 rfl rfl rfl rfl Tryd.underlying2 (by kernel_rfl) (by kernel_rfl) h0
  clear hA0
  refine (walk A0 n0 c0 f0 g0 s0 (table0 hL)).mono fun e W' ⟨he, bel⟩ => ?_
  subst he
  exact ⟨_, rfl, _, _, _, [], _, [], hW', trodAll_mk1 (shut_bool Tryd.underlying4 _), (trodAll_cons_mk (Below.trod laidOut (by kernel_rfl) (of_decide_eq_true (by kernel_rfl)) k0 bel lt0) trodAll_mk0), rfl, bel.frame _, fun h => by cases h⟩

theorem joined : joinedFacts Tryd.prog 17 Tryd.f17 (OpenSpec.ofChange Rows.polygonVerticesSpec).bare Rows.polygonVerticesRow = true := by
  have e1 := enterIs
  have e2 := liftsIs
  have e3 := makeIs
  generalize hP : Tryd.prog = P at *
  unfold joinedFacts
  simp only [Bool.and_eq_true]
  repeat' apply And.intro
  all_goals first
    | with_reducible exact e1
    | (rw [e2]; kernel_rfl)
    | (rw [e3]; kernel_rfl)
    | (subst hP; kernel_rfl)

noncomputable def laidHeap (os : Os) : Array Obj :=
  (World.holding Tryd.prog os ⟨#[], #[], []⟩).heap.modify 0 (fun
      | .cells _ t frozen => .cells #[.int .u64 9223372036854775808, .int .u64 18446744073709551615] t frozen
      | o => o)
noncomputable def laidWorld (os : Os) : World :=
  { World.holding Tryd.prog os ⟨#[], #[], []⟩ with heap := laidHeap os }
theorem laid_met (os : Os) : laidMet Tryd.prog Rows.polygonVerticesRow.laid ((laidWorld os).forCall (fun _ _ => 0) ⟨#[], #[.slice none 0 0], []⟩).memory :=
  laidMet_of_run' 8 (by kernel_rfl) (by kernel_rfl)
theorem reads (os : Os) {H : Type} (enc : TypeId × Value → H) : ∃ places, DataW.whole enc Tryd.prog ((laidWorld os).forCall (fun _ _ => 0) ⟨#[], #[.slice none 0 0], []⟩).memory Tryd.f17.params.toList Rows.polygonVerticesSpec.vars false (#[.slice none 0 0] : Array Value).toList 8 = some ([.nil], [], places) :=
  ⟨[], by kernel_rfl⟩

set_option maxRecDepth 100000 in
theorem lifted (os : Os) (started : os.Started) (H : Type) (enc : TypeId × Value → H) (F : Stop.Interp) :
    ReturnsInHanded {} Tryd.checked os 17 .any ((OpenSpec.ofChange Rows.polygonVerticesSpec).preRow enc Tryd.prog Tryd.f17 Rows.polygonVerticesRow.domain false Rows.polygonVerticesRow.laid) (((OpenSpec.ofChange Rows.polygonVerticesSpec).at F).post enc Tryd.prog Tryd.f17 false true false false) := by
  obtain ⟨places, hx⟩ := reads os enc
  refine returnsInHanded_of_row (C := Tryd.checked) (s := OpenSpec.ofChange Rows.polygonVerticesSpec) own started (by kernel_rfl) Tryd.func17
    (witness_row_at (enc := enc) (C := Tryd.checked) false (laidWorld os) #[.slice none 0 0] rfl (by kernel_rfl) (by kernel_rfl) (by kernel_rfl)
      (OpenSpec.preRow_of_cond 8 hx (by kernel_rfl) (fun k hk => by cases hk) (by kernel_rfl) (laid_met os))) ?_
  intro W base args ds gs before hval hW _ _ _ hL _ _
  exact contract H enc W base args ds gs before hval hW hL

theorem said : Rows.PolygonVerticesSaid :=
  OpenClaim.holds_of_cond 17 Tryd.f17 rfl rfl rfl rfl rfl rfl rfl ⟨rfl, rfl, rfl, rfl, rfl⟩ rfl rfl rfl rfl rfl (by kernel_rfl) Tryd.func17 (joined)
    (of_decide_eq_true (by kernel_rfl)) (by unfold Func.isWrapper; first | (rw [if_pos (by decide +kernel)]; kernel_rfl) | (rw [if_neg (by decide +kernel)]; exact ⟨rfl, rfl⟩))
    (fun os started H enc _ F => by rw [OpenClaim.pre_eq_preRow]; exact lifted os started H enc F)

theorem plain (f : FuncId) (fn : Func) (hf : Tryd.pinned.checked.prog.funcNamed "geofence/geofencelaw14.PolygonVertices" = some f) (hfn : Tryd.pinned.checked.prog.funcs[f]? = some fn) :
    false = Tryd.pinned.checked.prog.looks [] ∧ ∀ (j : Nat) t, fn.params[j]? = some t → Tryd.pinned.checked.prog.wantsStandIn t = false := by
  obtain rfl : f = 17 := Option.some.inj ((show Tryd.prog.funcNamed "geofence/geofencelaw14.PolygonVertices" = some 17 by kernel_rfl).symm.trans hf) |>.symm
  obtain rfl : fn = Tryd.f17 := (Option.some.inj (Tryd.func17.symm.trans hfn)).symm
  refine ⟨by kernel_rfl, fun j t ht => ?_⟩
  rw [Tryd.params17] at ht
  have hm := Array.mem_of_getElem? ht
  simp at hm
  obtain rfl := hm
  exact (show Tryd.prog.wantsStandIn 35 = false by kernel_rfl)

/-- THE CARD -/
theorem card : Rows.PolygonVerticesCardSaid :=
  Claim7.holds_tied_plain_at .later [] _ _ _ _ said (fun _ h => by cases h) (by kernel_rfl) (fun _ h => by cases h) polygonVertices_row_tie rfl ⟨rfl, rfl⟩ (mainText) rfl plain (by kernel_rfl)
#print axioms card
end Go.Proofs.YtoikcgmdlccdbaaDoor.polygonVertices
