/- PolygonRotates: for every input the law returns true, and each argument reads afterwards as it read before; the package variable that the row lists holds what it lists. -/
import Derived.Test.YtoikcgmdlccdbaaDoorCards
import Derived.Test.YtoikcgmdlccdbaaDoorTie
import Derived.Test.YtoikcgmdlccdbaaDoorLaw14
import Derived.Test.YtoikcgmdlccdbaaDoorPolyR
import Derived.Test.YtoikcgmdlccdbaaDoorPolyP
import Derived.Test.YtoikcgmdlccdbaaDoorRegI
import Derived.Test.YtoikcgmdlccdbaaDoorCat2
import Derived.Test.YtoikcgmdlccdbaaDoorPts
import Derived.Test.YtoikcgmdlccdbaaDoorMain
import Derived.Test.YtoikcgmdlccdbaaDoorOpenPt
import Derived.WalkKit
import Derived.ProofKit
import Derived.OpenShut
import Derived.Below
import Derived.Deep.DeepHandedRow
import Derived.Lib.LaidTab
namespace Go.Proofs.YtoikcgmdlccdbaaDoor.polygonRotates
open Go.ChangeShapes Go.WideShapes Go.ChangeAt Go.RowKit Wd
set_option linter.unusedVariables false
set_option linter.unusedSimpArgs false

theorem own : ownKnob Tryd.prog.godebug = none := by kernel_rfl
theorem laidOut : laidOutB Tryd.prog = true := by kernel_rfl

set_option maxRecDepth 100000 in
set_option maxHeartbeats 4000000 in
theorem walk {w : World} (A0 : Option Addr) (n0 c0 : Nat) (f0 g0 : Nat → Int) (s0 : Pts w A0 n0 c0 f0 g0) (a1 : Int) (w1 : (Lit.int .u8 a1).wf = true) (a2 b2 : Int) (w2 : (Lit.int .i64 a2).wf = true) (x2 : (Lit.int .i64 b2).wf = true) (hT : TabM w) :
    Calls Tryd.prog 20 #[.slice A0 n0 c0, .int .u8 a1, .agg #[.int .i64 a2, .int .i64 b2]] w fun e w' => e = .returned (.bool true) ∧ Below w.heap.size w w' := by
  have HB0 := Lib.hid (Below.refl w.heap.size w)
  have ia2 := isI_of_wf w2
  have ib2 := isI_of_wf x2
  have FT := Lib.hid hT; clear hT
  have FX := Lib.hid s0; have hm0 := Nat.le_trans s0.cap s0.max; clear s0
  by_cases hin : inP n0
  rotate_left
  · have HD := Lib.hid (show decide (inP n0) = false from by simpa using hin); clear hin
    go_enter Tryd.func20, Tryd.ntmps20
    go_wp2_with fail
    have B : Below w.heap.size w (w.alloc (.cells #[.int .i64 a2, .int .i64 b2] 28)) := (HB0.out.alloc HB0.out.size _)
    have C : Below w.heap.size w (w.alloc (.cells #[.int .i64 a2, .int .i64 b2] 28)) := ((Below.refl w.heap.size w).alloc (Nat.le_refl _) _)
    have X0 : Bx (w.alloc (.cells #[.int .i64 a2, .int .i64 b2] 28)) (w.heap.size) #[.int .i64 a2, .int .i64 b2] 28 := by simpa using (Bx.new w #[.int .i64 a2, .int .i64 b2] 28)
    have FT_1 := Lib.hid (FT.out.below C (Nat.le_refl _))
    have FX_1 := Lib.hid (FX.out.below C (Nat.le_refl _))
    have HB1 := Lib.hid B
    have FP_1 := Lib.hid X0
    clear B C X0 HB0 FT FX
    generalize (w.alloc (.cells #[.int .i64 a2, .int .i64 b2] 28)) = w1 at *
    skip
    refine (ref14_Is _ n0 _ hm0 _).mono ?_
    rintro e w2 ⟨rfl, B⟩
    have HB2 := Lib.hid (HB1.out.trans (B.mono HB1.out.size))
    have FT_2 := Lib.hid (FT_1.out.below B (Nat.le_refl _))
    have FX_2 := Lib.hid (FX_1.out.below B (Nat.le_refl _))
    have FP_2 := Lib.hid (FP_1.out.below B (Nat.le_refl _))
    clear B  HB1 FT_1 FX_1 FP_1
    rw [HD.out]
    go_wp2_with fail
    refine (alive14 _ FT_2.out).mono ?_
    rintro e w3 ⟨rfl, B⟩
    have HB3 := Lib.hid (HB2.out.trans (B.mono HB2.out.size))
    have FT_3 := Lib.hid (FT_2.out.below B (Nat.le_refl _))
    have FX_3 := Lib.hid (FX_2.out.below B (Nat.le_refl _))
    have FP_3 := Lib.hid (FP_2.out.below B (Nat.le_refl _))
    clear B  HB2 FT_2 FX_2 FP_2
    go_wp2_with fail
    go_ret
    exact ⟨rfl, HB3.out⟩
  have HD := Lib.hid (show decide (inP n0) = true from by simpa using hin)
  have hn3 := hin.1; have hn64 := hin.2; clear hin
  obtain ⟨b, off, rfl⟩ := FX.out.some (by omega)
  have hnc := FX.out.cap
  have ha : 0 ≤ a1 ∧ a1 ≤ 255 := by
    have := w1; simp only [Lit.wf, IntKind.min, IntKind.max, Bool.and_eq_true, decide_eq_true_eq] at this
    exact ⟨of_decide_eq_true this.1, of_decide_eq_true this.2⟩
  obtain ⟨i, hti, hi⟩ : ∃ i : Nat, a1.tmod (n0 : Int) = (i : Int) ∧ i < n0 := by
    have h1 := Int.emod_nonneg a1 (show (n0 : Int) ≠ 0 by omega)
    have h2 := Int.emod_lt_of_pos a1 (show (0 : Int) < n0 by omega)
    refine ⟨(a1 % n0).toNat, ?_, by omega⟩
    rw [Int.tmod_eq_emod_of_nonneg ha.1]; omega
  have wk1 : IntKind.i64.wrap a1 = a1 := by rw [IntKind.wrap_i64]; omega
  have wk2 : wrap64 a1 = a1 := by rw [← IntWalk.i64_left]; exact wk1
  obtain ⟨wi_, wj_⟩ := wrapN (m := i) (by omega)
  have hnz : ¬ (n0 = 0) := by omega
  have HF := Lib.hid (show ∀ j, j < n0 → (fun j => f0 (rt n0 i j)) j = f0 (rt n0 i j) ∧ (fun j => g0 (rt n0 i j)) j = g0 (rt n0 i j) from fun _ _ => ⟨rfl, rfl⟩)
  have HG := Lib.hid (show ∀ j, j < n0 → (fun j => f0 (rt n0 i (rv n0 j))) j = (fun j => f0 (rt n0 i j)) (rv n0 j) ∧ (fun j => g0 (rt n0 i (rv n0 j))) j = (fun j => g0 (rt n0 i j)) (rv n0 j) from fun _ _ => ⟨rfl, rfl⟩)
  have HVW := Lib.hid (valid_rt hn3 hi HF.out); have HVY := Lib.hid ((valid_rv hn3 HG.out).trans HVW.out)
  cases hv : validP f0 g0 n0
  · have HV := Lib.hid hv
    clear hv
    go_enter Tryd.func20, Tryd.ntmps20
    go_wp2_with fail
    have B : Below w.heap.size w (w.alloc (.cells #[.int .i64 a2, .int .i64 b2] 28)) := (HB0.out.alloc HB0.out.size _)
    have C : Below w.heap.size w (w.alloc (.cells #[.int .i64 a2, .int .i64 b2] 28)) := ((Below.refl w.heap.size w).alloc (Nat.le_refl _) _)
    have X0 : Bx (w.alloc (.cells #[.int .i64 a2, .int .i64 b2] 28)) (w.heap.size) #[.int .i64 a2, .int .i64 b2] 28 := by simpa using (Bx.new w #[.int .i64 a2, .int .i64 b2] 28)
    have FT_1 := Lib.hid (FT.out.below C (Nat.le_refl _))
    have FX_1 := Lib.hid (FX.out.below C (Nat.le_refl _))
    have HB1 := Lib.hid B
    have FP_1 := Lib.hid X0
    clear B C X0 HB0 FT FX
    generalize (w.alloc (.cells #[.int .i64 a2, .int .i64 b2] 28)) = w1 at *
    skip
    refine (ref14_Is _ n0 _ hm0 _).mono ?_
    rintro e w2 ⟨rfl, B⟩
    have HB2 := Lib.hid (HB1.out.trans (B.mono HB1.out.size))
    have FT_2 := Lib.hid (FT_1.out.below B (Nat.le_refl _))
    have FX_2 := Lib.hid (FX_1.out.below B (Nat.le_refl _))
    have FP_2 := Lib.hid (FP_1.out.below B (Nat.le_refl _))
    clear B  HB1 FT_1 FX_1 FP_1
    rw [HD.out]
    go_wp2_with fail
    have HTI := Lib.hid hti; clear hti wk1 wk2; have hl1 : i ≤ n0 := (by omega); have hl2 : i ≤ c0 := (by omega); have hl3 : ¬ (c0 = i) := (by omega)
    skip
    refine (wpIn_wide (n := 0)).1 ?_
    refine wpIn_region_any (by kernel_rfl) ?_
    change wpAnyIn _ _ _ _ _ _ _ _ _ (World.drew _)
    have RB2 := Lib.hid (below_drew0 w2)
    refine wpAnyIn_tail WideF.wide (fun a b => Below a.heap.size a b) (fun _ => below_rf) (fun _ _ _ h k => below_tr h k) [⟨0, 21, fun z_ _ => z_ = .slice (some ⟨b, off, none⟩) n0 c0⟩, ⟨1, 22, fun z_ _ => z_ = .int .i64 (i : Int)⟩, ⟨2, 23, fun z_ _ => z_ = .slice (some ⟨b, off + i * 2, none⟩) (n0 - i) (c0 - i)⟩, ⟨3, 24, fun z_ _ => z_ = .slice (some ⟨b, off, none⟩) n0 c0⟩, ⟨4, 25, fun z_ _ => z_ = .int .i64 (i : Int)⟩, ⟨5, 26, fun z_ _ => z_ = .slice (some ⟨b, off, none⟩) i c0⟩, ⟨6, 27, fun x w => ∃ b_ : Nat, x = .slice (some ⟨b_, 0, none⟩) 2 2 ∧ Bx w b_ #[.slice (some ⟨b, off + i * 2, none⟩) (n0 - i) (c0 - i), .slice (some ⟨b, off, none⟩) i c0] 35⟩, ⟨7, 28, fun x w => ∃ q : Nat × Nat, x = .slice (some ⟨q.1, 0, none⟩) n0 q.2 ∧ Pts w (some ⟨q.1, 0, none⟩) n0 q.2 (fun j => f0 (rt n0 i j)) (fun j => g0 (rt n0 i j))⟩, ⟨8, 8, fun x w => ∃ q : Nat × Nat, x = .slice (some ⟨q.1, 0, none⟩) n0 q.2 ∧ Pts w (some ⟨q.1, 0, none⟩) n0 q.2 (fun j => f0 (rt n0 i j)) (fun j => g0 (rt n0 i j))⟩] 9 (by kernel_rfl) ?_ ?_ ?_
    · refine ⟨?_, ?_, ?_, ?_, ?_, ?_, ?_, ?_, ?_, trivial⟩
      all_goals (intro x w w' hb h; first | exact h | (obtain ⟨b_, h1, h2⟩ := h; exact ⟨b_, h1, h2.below hb (Nat.le_refl _)⟩))
    · refine ⟨?_, ?_, ?_, ?_, ?_, ?_, ?_, ?_, ?_, trivial⟩
      · intro a wz K hb ht hd hK
        have hbw := Lib.hid (below_tr RB2.out hb); clear hb
        have hx0 := (ht 0 rfl).trans rfl
        have es0 : a.tmps.getD 0 undef = _ := getD_of hx0; clear hx0
        clear ht hd
        have HK := Lib.hid hK; clear hK
        refine wpOpP_step (by simp only [List.getElem?_toArray, List.getElem?_cons_succ, List.getElem?_cons_zero]; rfl) (fun K' hK' => ?_)
        have HK' := Lib.hid hK'; clear hK'
        go_simp
        exact HK'.out _ _ (HK.out _ _ below_rf rfl)
      · intro a wz K hb ht hd hK
        have hbw := Lib.hid (below_tr RB2.out hb); clear hb
        have hx7 := (ht 7 rfl).trans rfl
        have es7 : a.tmps.getD 7 undef = _ := getD_of hx7; clear hx7
        clear ht hd
        have HK := Lib.hid hK; clear hK
        refine wpOpP_step (by simp only [List.getElem?_toArray, List.getElem?_cons_succ, List.getElem?_cons_zero]; rfl) (fun K' hK' => ?_)
        have HK' := Lib.hid hK'; clear hK'
        go_simp
        exact HK'.out _ _ (HK.out _ _ below_rf rfl)
      · intro a wz K hb ht hd hK
        have hbw := Lib.hid (below_tr RB2.out hb); clear hb
        obtain ⟨x21, hx21, hp21⟩ := hd 0 _ rfl (by kernel_rfl)
        obtain rfl := hp21
        have es21 : a.tmps.getD 21 undef = _ := getD_of hx21; clear hx21
        obtain ⟨x22, hx22, hp22⟩ := hd 1 _ rfl (by kernel_rfl)
        obtain rfl := hp22
        have es22 : a.tmps.getD 22 undef = _ := getD_of hx22; clear hx22
        clear ht hd
        have HK := Lib.hid hK; clear hK
        refine wpOpP_step (by simp only [List.getElem?_toArray, List.getElem?_cons_succ, List.getElem?_cons_zero]; rfl) (fun K' hK' => ?_)
        have HK' := Lib.hid hK'; clear hK'
        go_simp
        exact HK'.out _ _ (HK.out _ _ below_rf rfl)
      · intro a wz K hb ht hd hK
        have hbw := Lib.hid (below_tr RB2.out hb); clear hb
        have hx0 := (ht 0 rfl).trans rfl
        have es0 : a.tmps.getD 0 undef = _ := getD_of hx0; clear hx0
        clear ht hd
        have HK := Lib.hid hK; clear hK
        refine wpOpP_step (by simp only [List.getElem?_toArray, List.getElem?_cons_succ, List.getElem?_cons_zero]; rfl) (fun K' hK' => ?_)
        have HK' := Lib.hid hK'; clear hK'
        go_simp
        exact HK'.out _ _ (HK.out _ _ below_rf rfl)
      · intro a wz K hb ht hd hK
        have hbw := Lib.hid (below_tr RB2.out hb); clear hb
        have hx7 := (ht 7 rfl).trans rfl
        have es7 : a.tmps.getD 7 undef = _ := getD_of hx7; clear hx7
        clear ht hd
        have HK := Lib.hid hK; clear hK
        refine wpOpP_step (by simp only [List.getElem?_toArray, List.getElem?_cons_succ, List.getElem?_cons_zero]; rfl) (fun K' hK' => ?_)
        have HK' := Lib.hid hK'; clear hK'
        go_simp
        exact HK'.out _ _ (HK.out _ _ below_rf rfl)
      · intro a wz K hb ht hd hK
        have hbw := Lib.hid (below_tr RB2.out hb); clear hb
        obtain ⟨x24, hx24, hp24⟩ := hd 3 _ rfl (by kernel_rfl)
        obtain rfl := hp24
        have es24 : a.tmps.getD 24 undef = _ := getD_of hx24; clear hx24
        obtain ⟨x25, hx25, hp25⟩ := hd 4 _ rfl (by kernel_rfl)
        obtain rfl := hp25
        have es25 : a.tmps.getD 25 undef = _ := getD_of hx25; clear hx25
        clear ht hd
        have HK := Lib.hid hK; clear hK
        refine wpOpP_step (by simp only [List.getElem?_toArray, List.getElem?_cons_succ, List.getElem?_cons_zero]; rfl) (fun K' hK' => ?_)
        have HK' := Lib.hid hK'; clear hK'
        go_simp
        exact HK'.out _ _ (HK.out _ _ below_rf rfl)
      · intro a wz K hb ht hd hK
        have hbw := Lib.hid (below_tr RB2.out hb); clear hb
        obtain ⟨x23, hx23, hp23⟩ := hd 2 _ rfl (by kernel_rfl)
        obtain rfl := hp23
        have es23 : a.tmps.getD 23 undef = _ := getD_of hx23; have et23 := getO_of hx23; clear hx23
        obtain ⟨x26, hx26, hp26⟩ := hd 5 _ rfl (by kernel_rfl)
        obtain rfl := hp26
        have es26 : a.tmps.getD 26 undef = _ := getD_of hx26; have et26 := getO_of hx26; clear hx26
        clear ht hd
        have HK := Lib.hid hK; clear hK
        refine wpOpP_step (by simp only [List.getElem?_toArray, List.getElem?_cons_succ, List.getElem?_cons_zero]; rfl) (fun K' hK' => ?_)
        have HK' := Lib.hid hK'; clear hK'
        go_simp
        exact HK'.out _ _ (HK.out _ _ (below_al below_rf) ⟨_, rfl, Bx.new _ _ _⟩)
      · intro a wz K hb ht hd hK
        have hbw := Lib.hid (below_tr RB2.out hb); clear hb
        obtain ⟨x27, hx27, hp27⟩ := hd 6 _ rfl (by kernel_rfl)
        obtain ⟨b27, rfl, S27⟩ := hp27
        have es27 : a.tmps.getD 27 undef = _ := getD_of hx27; clear hx27
        clear ht hd
        have HK := Lib.hid hK; clear hK
        refine wpOpP_step (by simp only [List.getElem?_toArray, List.getElem?_cons_succ, List.getElem?_cons_zero]; rfl) (fun K' hK' => ?_)
        have HK' := Lib.hid hK'; clear hK'
        go_simp
        refine (concat_rt b off n0 c0 i _ f0 g0 _ (by omega) hi S27 (FX_2.out.below hbw.out (Nat.le_refl _))).mono ?_
        rintro e w1 ⟨⟨q, rfl, hq⟩, B⟩
        go_wp2_with fail
        exact HK'.out _ _ (HK.out _ _ B ⟨q, rfl, hq⟩)
      · intro a wz K hb ht hd hK
        have hbw := Lib.hid (below_tr RB2.out hb); clear hb
        obtain ⟨x28, hx28, hp28⟩ := hd 7 _ rfl (by kernel_rfl)
        obtain ⟨q28, rfl, S28⟩ := hp28
        have es28 : a.tmps.getD 28 undef = _ := getD_of hx28; clear hx28
        clear ht hd
        have HK := Lib.hid hK; clear hK
        refine wpOpP_step (by simp only [List.getElem?_toArray, List.getElem?_cons_succ, List.getElem?_cons_zero]; rfl) (fun K' hK' => ?_)
        have HK' := Lib.hid hK'; clear hK'
        go_simp
        exact HK'.out _ _ (HK.out _ _ below_rf ⟨q28, rfl, S28⟩)
    intro w3 X hb hv
    simp only [List.foldl_cons, List.foldl_nil, Act.put, List.setIfInBounds_toArray, List.set_cons_zero, List.set_cons_succ, List.toList_toArray, List.drop_succ_cons, List.drop_zero]
    obtain ⟨hv0, hv1, hv2, hv3, hv4, hv5, hv6, hv7, hv8, -⟩ := hv
    have hV0 : (fun z_ _ => z_ = .slice (some ⟨b, off, none⟩) n0 c0) (X 21) w3 := hv0; clear hv0; have hv0 := hV0; clear hV0; generalize X 21 = X21 at *
    have hV1 : (fun z_ _ => z_ = .int .i64 (i : Int)) (X 22) w3 := hv1; clear hv1; have hv1 := hV1; clear hV1; generalize X 22 = X22 at *
    have hV2 : (fun z_ _ => z_ = .slice (some ⟨b, off + i * 2, none⟩) (n0 - i) (c0 - i)) (X 23) w3 := hv2; clear hv2; have hv2 := hV2; clear hV2; generalize X 23 = X23 at *
    have hV3 : (fun z_ _ => z_ = .slice (some ⟨b, off, none⟩) n0 c0) (X 24) w3 := hv3; clear hv3; have hv3 := hV3; clear hV3; generalize X 24 = X24 at *
    have hV4 : (fun z_ _ => z_ = .int .i64 (i : Int)) (X 25) w3 := hv4; clear hv4; have hv4 := hV4; clear hV4; generalize X 25 = X25 at *
    have hV5 : (fun z_ _ => z_ = .slice (some ⟨b, off, none⟩) i c0) (X 26) w3 := hv5; clear hv5; have hv5 := hV5; clear hV5; generalize X 26 = X26 at *
    have hV6 : (fun x w => ∃ b_ : Nat, x = .slice (some ⟨b_, 0, none⟩) 2 2 ∧ Bx w b_ #[.slice (some ⟨b, off + i * 2, none⟩) (n0 - i) (c0 - i), .slice (some ⟨b, off, none⟩) i c0] 35) (X 27) w3 := hv6; clear hv6; have hv6 := hV6; clear hV6; generalize X 27 = X27 at *
    have hV7 : (fun x w => ∃ q : Nat × Nat, x = .slice (some ⟨q.1, 0, none⟩) n0 q.2 ∧ Pts w (some ⟨q.1, 0, none⟩) n0 q.2 (fun j => f0 (rt n0 i j)) (fun j => g0 (rt n0 i j))) (X 28) w3 := hv7; clear hv7; have hv7 := hV7; clear hV7; generalize X 28 = X28 at *
    have hV8 : (fun x w => ∃ q : Nat × Nat, x = .slice (some ⟨q.1, 0, none⟩) n0 q.2 ∧ Pts w (some ⟨q.1, 0, none⟩) n0 q.2 (fun j => f0 (rt n0 i j)) (fun j => g0 (rt n0 i j))) (X 8) w3 := hv8; clear hv8; have hv8 := hV8; clear hV8; generalize X 8 = X8 at *
    obtain rfl := hv0
    obtain rfl := hv1
    obtain rfl := hv2
    obtain rfl := hv3
    obtain rfl := hv4
    obtain rfl := hv5
    clear hv6
    clear hv7
    obtain ⟨q8, rfl, S8⟩ := hv8
    have RC := Lib.hid (below_tr RB2.out hb); clear hb
    have FT_3 := Lib.hid (FT_2.out.below RC.out (Nat.le_refl _))
    have FX_3 := Lib.hid (FX_2.out.below RC.out (Nat.le_refl _))
    have FP_3 := Lib.hid (FP_2.out.below RC.out (Nat.le_refl _))
    have HB3 := Lib.hid (HB2.out.trans (RC.out.mono HB2.out.size))
    clear HB2 FT_2 FX_2 FP_2 RB2
    have FW := Lib.hid S8; clear S8
    refine wpListIn_nil ?_
    go_wp2_with fail
    refine (clone_row _ n0 _ _ _ _ FW.out (by omega)).mono ?_
    rintro e wB ⟨⟨g1, c1, cur, rfl, hg1, hBx, hc4, hcm, hcs, htk⟩, BB⟩
    have HBB := Lib.hid BB; have HBX := Lib.hid hBx; have HRW := Lib.hid (rowP_of htk); have HG1 := Lib.hid hg1; have HII := Lib.hid FW.out.isi; clear BB hBx hcs htk hg1
    go_wp2_with fail
    refine (reverse_pts g1 n0 c1 _ _ cur _ HBX.out HRW.out HII.out hc4 hcm).mono ?_
    rintro e w5 ⟨rfl, hY, BC⟩
    have B : Below w3.heap.size w3 w5 := HBB.out.trans (BC.mono HG1.out)
    have HB5 := Lib.hid (HB3.out.trans (B.mono HB3.out.size))
    have FT_5 := Lib.hid (FT_3.out.below B (Nat.le_refl _))
    have FX_5 := Lib.hid (FX_3.out.below B (Nat.le_refl _))
    have FP_5 := Lib.hid (FP_3.out.below B (Nat.le_refl _))
    have FW_5 := Lib.hid (FW.out.below B (Nat.le_refl _))
    have FY_5 := Lib.hid hY; clear hY B BC HBB HBX HRW HG1 HII hc4 hcm HB3 FT_3 FX_3 FP_3 FW
    go_wp2_with fail
    refine (polygon_Valid _ n0 _ f0 g0 _ FT_5.out FX_5.out).mono ?_
    rintro e w6 ⟨rfl, B⟩
    have HB6 := Lib.hid (HB5.out.trans (B.mono HB5.out.size))
    have FT_6 := Lib.hid (FT_5.out.below B (Nat.le_refl _))
    have FX_6 := Lib.hid (FX_5.out.below B (Nat.le_refl _))
    have FP_6 := Lib.hid (FP_5.out.below B (Nat.le_refl _))
    have FW_6 := Lib.hid (FW_5.out.below B (Nat.le_refl _))
    have FY_6 := Lib.hid (FY_5.out.below B (Nat.le_refl _))
    clear B  HB5 FT_5 FX_5 FP_5 FW_5 FY_5
    rw [HV.out, show msk false = 0 from rfl]
    go_wp2_with fail
    refine (polygon_Valid _ n0 _ _ _ _ FT_6.out FW_6.out).mono ?_
    rintro e w7 ⟨rfl, B⟩
    have HB7 := Lib.hid (HB6.out.trans (B.mono HB6.out.size))
    have FT_7 := Lib.hid (FT_6.out.below B (Nat.le_refl _))
    have FX_7 := Lib.hid (FX_6.out.below B (Nat.le_refl _))
    have FP_7 := Lib.hid (FP_6.out.below B (Nat.le_refl _))
    have FW_7 := Lib.hid (FW_6.out.below B (Nat.le_refl _))
    have FY_7 := Lib.hid (FY_6.out.below B (Nat.le_refl _))
    clear B  HB6 FT_6 FX_6 FP_6 FW_6 FY_6
    rw [HVW.out, HV.out, show msk false = 0 from rfl]
    go_wp2_with fail
    refine (polygon_Valid _ n0 _ _ _ _ FT_7.out FY_7.out).mono ?_
    rintro e w8 ⟨rfl, B⟩
    have HB8 := Lib.hid (HB7.out.trans (B.mono HB7.out.size))
    have FT_8 := Lib.hid (FT_7.out.below B (Nat.le_refl _))
    have FX_8 := Lib.hid (FX_7.out.below B (Nat.le_refl _))
    have FP_8 := Lib.hid (FP_7.out.below B (Nat.le_refl _))
    have FW_8 := Lib.hid (FW_7.out.below B (Nat.le_refl _))
    have FY_8 := Lib.hid (FY_7.out.below B (Nat.le_refl _))
    clear B  HB7 FT_7 FX_7 FP_7 FW_7 FY_7
    rw [HVY.out, HV.out, show msk false = 0 from rfl]
    go_wp2_with fail
    refine (alive14 _ FT_8.out).mono ?_
    rintro e w9 ⟨rfl, B⟩
    have HB9 := Lib.hid (HB8.out.trans (B.mono HB8.out.size))
    have FT_9 := Lib.hid (FT_8.out.below B (Nat.le_refl _))
    have FX_9 := Lib.hid (FX_8.out.below B (Nat.le_refl _))
    have FP_9 := Lib.hid (FP_8.out.below B (Nat.le_refl _))
    have FW_9 := Lib.hid (FW_8.out.below B (Nat.le_refl _))
    have FY_9 := Lib.hid (FY_8.out.below B (Nat.le_refl _))
    clear B  HB8 FT_8 FX_8 FP_8 FW_8 FY_8
    go_wp2_with fail
    go_ret
    exact ⟨rfl, HB9.out⟩
  · have HV := Lib.hid hv
    have HLW := Lib.hid (loc_rt hn3 hi HF.out hv a2 b2); have HLY := Lib.hid ((loc_rv hn3 HG.out (HVW.out.trans hv) a2 b2).trans HLW.out)
    have HOW := Lib.hid ((ori_rt hi HF.out hv).trans (Int.one_mul _)); have HOY := Lib.hid ((ori_rv HG.out (HVW.out.trans hv)).trans (by rw [HOW.out, Int.neg_mul, Int.one_mul]))
    have hr := ori_range f0 g0 n0
    clear hv
    go_enter Tryd.func20, Tryd.ntmps20
    go_wp2_with fail
    have B : Below w.heap.size w (w.alloc (.cells #[.int .i64 a2, .int .i64 b2] 28)) := (HB0.out.alloc HB0.out.size _)
    have C : Below w.heap.size w (w.alloc (.cells #[.int .i64 a2, .int .i64 b2] 28)) := ((Below.refl w.heap.size w).alloc (Nat.le_refl _) _)
    have X0 : Bx (w.alloc (.cells #[.int .i64 a2, .int .i64 b2] 28)) (w.heap.size) #[.int .i64 a2, .int .i64 b2] 28 := by simpa using (Bx.new w #[.int .i64 a2, .int .i64 b2] 28)
    have FT_1 := Lib.hid (FT.out.below C (Nat.le_refl _))
    have FX_1 := Lib.hid (FX.out.below C (Nat.le_refl _))
    have HB1 := Lib.hid B
    have FP_1 := Lib.hid X0
    clear B C X0 HB0 FT FX
    generalize (w.alloc (.cells #[.int .i64 a2, .int .i64 b2] 28)) = w1 at *
    skip
    refine (ref14_Is _ n0 _ hm0 _).mono ?_
    rintro e w2 ⟨rfl, B⟩
    have HB2 := Lib.hid (HB1.out.trans (B.mono HB1.out.size))
    have FT_2 := Lib.hid (FT_1.out.below B (Nat.le_refl _))
    have FX_2 := Lib.hid (FX_1.out.below B (Nat.le_refl _))
    have FP_2 := Lib.hid (FP_1.out.below B (Nat.le_refl _))
    clear B  HB1 FT_1 FX_1 FP_1
    rw [HD.out]
    go_wp2_with fail
    have HTI := Lib.hid hti; clear hti wk1 wk2; have hl1 : i ≤ n0 := (by omega); have hl2 : i ≤ c0 := (by omega); have hl3 : ¬ (c0 = i) := (by omega)
    skip
    refine (wpIn_wide (n := 0)).1 ?_
    refine wpIn_region_any (by kernel_rfl) ?_
    change wpAnyIn _ _ _ _ _ _ _ _ _ (World.drew _)
    have RB2 := Lib.hid (below_drew0 w2)
    refine wpAnyIn_tail WideF.wide (fun a b => Below a.heap.size a b) (fun _ => below_rf) (fun _ _ _ h k => below_tr h k) [⟨0, 21, fun z_ _ => z_ = .slice (some ⟨b, off, none⟩) n0 c0⟩, ⟨1, 22, fun z_ _ => z_ = .int .i64 (i : Int)⟩, ⟨2, 23, fun z_ _ => z_ = .slice (some ⟨b, off + i * 2, none⟩) (n0 - i) (c0 - i)⟩, ⟨3, 24, fun z_ _ => z_ = .slice (some ⟨b, off, none⟩) n0 c0⟩, ⟨4, 25, fun z_ _ => z_ = .int .i64 (i : Int)⟩, ⟨5, 26, fun z_ _ => z_ = .slice (some ⟨b, off, none⟩) i c0⟩, ⟨6, 27, fun x w => ∃ b_ : Nat, x = .slice (some ⟨b_, 0, none⟩) 2 2 ∧ Bx w b_ #[.slice (some ⟨b, off + i * 2, none⟩) (n0 - i) (c0 - i), .slice (some ⟨b, off, none⟩) i c0] 35⟩, ⟨7, 28, fun x w => ∃ q : Nat × Nat, x = .slice (some ⟨q.1, 0, none⟩) n0 q.2 ∧ Pts w (some ⟨q.1, 0, none⟩) n0 q.2 (fun j => f0 (rt n0 i j)) (fun j => g0 (rt n0 i j))⟩, ⟨8, 8, fun x w => ∃ q : Nat × Nat, x = .slice (some ⟨q.1, 0, none⟩) n0 q.2 ∧ Pts w (some ⟨q.1, 0, none⟩) n0 q.2 (fun j => f0 (rt n0 i j)) (fun j => g0 (rt n0 i j))⟩] 9 (by kernel_rfl) ?_ ?_ ?_
    · refine ⟨?_, ?_, ?_, ?_, ?_, ?_, ?_, ?_, ?_, trivial⟩
      all_goals (intro x w w' hb h; first | exact h | (obtain ⟨b_, h1, h2⟩ := h; exact ⟨b_, h1, h2.below hb (Nat.le_refl _)⟩))
    · refine ⟨?_, ?_, ?_, ?_, ?_, ?_, ?_, ?_, ?_, trivial⟩
      · intro a wz K hb ht hd hK
        have hbw := Lib.hid (below_tr RB2.out hb); clear hb
        have hx0 := (ht 0 rfl).trans rfl
        have es0 : a.tmps.getD 0 undef = _ := getD_of hx0; clear hx0
        clear ht hd
        have HK := Lib.hid hK; clear hK
        refine wpOpP_step (by simp only [List.getElem?_toArray, List.getElem?_cons_succ, List.getElem?_cons_zero]; rfl) (fun K' hK' => ?_)
        have HK' := Lib.hid hK'; clear hK'
        go_simp
        exact HK'.out _ _ (HK.out _ _ below_rf rfl)
      · intro a wz K hb ht hd hK
        have hbw := Lib.hid (below_tr RB2.out hb); clear hb
        have hx7 := (ht 7 rfl).trans rfl
        have es7 : a.tmps.getD 7 undef = _ := getD_of hx7; clear hx7
        clear ht hd
        have HK := Lib.hid hK; clear hK
        refine wpOpP_step (by simp only [List.getElem?_toArray, List.getElem?_cons_succ, List.getElem?_cons_zero]; rfl) (fun K' hK' => ?_)
        have HK' := Lib.hid hK'; clear hK'
        go_simp
        exact HK'.out _ _ (HK.out _ _ below_rf rfl)
      · intro a wz K hb ht hd hK
        have hbw := Lib.hid (below_tr RB2.out hb); clear hb
        obtain ⟨x21, hx21, hp21⟩ := hd 0 _ rfl (by kernel_rfl)
        obtain rfl := hp21
        have es21 : a.tmps.getD 21 undef = _ := getD_of hx21; clear hx21
        obtain ⟨x22, hx22, hp22⟩ := hd 1 _ rfl (by kernel_rfl)
        obtain rfl := hp22
        have es22 : a.tmps.getD 22 undef = _ := getD_of hx22; clear hx22
        clear ht hd
        have HK := Lib.hid hK; clear hK
        refine wpOpP_step (by simp only [List.getElem?_toArray, List.getElem?_cons_succ, List.getElem?_cons_zero]; rfl) (fun K' hK' => ?_)
        have HK' := Lib.hid hK'; clear hK'
        go_simp
        exact HK'.out _ _ (HK.out _ _ below_rf rfl)
      · intro a wz K hb ht hd hK
        have hbw := Lib.hid (below_tr RB2.out hb); clear hb
        have hx0 := (ht 0 rfl).trans rfl
        have es0 : a.tmps.getD 0 undef = _ := getD_of hx0; clear hx0
        clear ht hd
        have HK := Lib.hid hK; clear hK
        refine wpOpP_step (by simp only [List.getElem?_toArray, List.getElem?_cons_succ, List.getElem?_cons_zero]; rfl) (fun K' hK' => ?_)
        have HK' := Lib.hid hK'; clear hK'
        go_simp
        exact HK'.out _ _ (HK.out _ _ below_rf rfl)
      · intro a wz K hb ht hd hK
        have hbw := Lib.hid (below_tr RB2.out hb); clear hb
        have hx7 := (ht 7 rfl).trans rfl
        have es7 : a.tmps.getD 7 undef = _ := getD_of hx7; clear hx7
        clear ht hd
        have HK := Lib.hid hK; clear hK
        refine wpOpP_step (by simp only [List.getElem?_toArray, List.getElem?_cons_succ, List.getElem?_cons_zero]; rfl) (fun K' hK' => ?_)
        have HK' := Lib.hid hK'; clear hK'
        go_simp
        exact HK'.out _ _ (HK.out _ _ below_rf rfl)
      · intro a wz K hb ht hd hK
        have hbw := Lib.hid (below_tr RB2.out hb); clear hb
        obtain ⟨x24, hx24, hp24⟩ := hd 3 _ rfl (by kernel_rfl)
        obtain rfl := hp24
        have es24 : a.tmps.getD 24 undef = _ := getD_of hx24; clear hx24
        obtain ⟨x25, hx25, hp25⟩ := hd 4 _ rfl (by kernel_rfl)
        obtain rfl := hp25
        have es25 : a.tmps.getD 25 undef = _ := getD_of hx25; clear hx25
        clear ht hd
        have HK := Lib.hid hK; clear hK
        refine wpOpP_step (by simp only [List.getElem?_toArray, List.getElem?_cons_succ, List.getElem?_cons_zero]; rfl) (fun K' hK' => ?_)
        have HK' := Lib.hid hK'; clear hK'
        go_simp
        exact HK'.out _ _ (HK.out _ _ below_rf rfl)
      · intro a wz K hb ht hd hK
        have hbw := Lib.hid (below_tr RB2.out hb); clear hb
        obtain ⟨x23, hx23, hp23⟩ := hd 2 _ rfl (by kernel_rfl)
        obtain rfl := hp23
        have es23 : a.tmps.getD 23 undef = _ := getD_of hx23; have et23 := getO_of hx23; clear hx23
        obtain ⟨x26, hx26, hp26⟩ := hd 5 _ rfl (by kernel_rfl)
        obtain rfl := hp26
        have es26 : a.tmps.getD 26 undef = _ := getD_of hx26; have et26 := getO_of hx26; clear hx26
        clear ht hd
        have HK := Lib.hid hK; clear hK
        refine wpOpP_step (by simp only [List.getElem?_toArray, List.getElem?_cons_succ, List.getElem?_cons_zero]; rfl) (fun K' hK' => ?_)
        have HK' := Lib.hid hK'; clear hK'
        go_simp
        exact HK'.out _ _ (HK.out _ _ (below_al below_rf) ⟨_, rfl, Bx.new _ _ _⟩)
      · intro a wz K hb ht hd hK
        have hbw := Lib.hid (below_tr RB2.out hb); clear hb
        obtain ⟨x27, hx27, hp27⟩ := hd 6 _ rfl (by kernel_rfl)
        obtain ⟨b27, rfl, S27⟩ := hp27
        have es27 : a.tmps.getD 27 undef = _ := getD_of hx27; clear hx27
        clear ht hd
        have HK := Lib.hid hK; clear hK
        refine wpOpP_step (by simp only [List.getElem?_toArray, List.getElem?_cons_succ, List.getElem?_cons_zero]; rfl) (fun K' hK' => ?_)
        have HK' := Lib.hid hK'; clear hK'
        go_simp
        refine (concat_rt b off n0 c0 i _ f0 g0 _ (by omega) hi S27 (FX_2.out.below hbw.out (Nat.le_refl _))).mono ?_
        rintro e w1 ⟨⟨q, rfl, hq⟩, B⟩
        go_wp2_with fail
        exact HK'.out _ _ (HK.out _ _ B ⟨q, rfl, hq⟩)
      · intro a wz K hb ht hd hK
        have hbw := Lib.hid (below_tr RB2.out hb); clear hb
        obtain ⟨x28, hx28, hp28⟩ := hd 7 _ rfl (by kernel_rfl)
        obtain ⟨q28, rfl, S28⟩ := hp28
        have es28 : a.tmps.getD 28 undef = _ := getD_of hx28; clear hx28
        clear ht hd
        have HK := Lib.hid hK; clear hK
        refine wpOpP_step (by simp only [List.getElem?_toArray, List.getElem?_cons_succ, List.getElem?_cons_zero]; rfl) (fun K' hK' => ?_)
        have HK' := Lib.hid hK'; clear hK'
        go_simp
        exact HK'.out _ _ (HK.out _ _ below_rf ⟨q28, rfl, S28⟩)
    intro w3 X hb hv
    simp only [List.foldl_cons, List.foldl_nil, Act.put, List.setIfInBounds_toArray, List.set_cons_zero, List.set_cons_succ, List.toList_toArray, List.drop_succ_cons, List.drop_zero]
    obtain ⟨hv0, hv1, hv2, hv3, hv4, hv5, hv6, hv7, hv8, -⟩ := hv
    have hV0 : (fun z_ _ => z_ = .slice (some ⟨b, off, none⟩) n0 c0) (X 21) w3 := hv0; clear hv0; have hv0 := hV0; clear hV0; generalize X 21 = X21 at *
    have hV1 : (fun z_ _ => z_ = .int .i64 (i : Int)) (X 22) w3 := hv1; clear hv1; have hv1 := hV1; clear hV1; generalize X 22 = X22 at *
    have hV2 : (fun z_ _ => z_ = .slice (some ⟨b, off + i * 2, none⟩) (n0 - i) (c0 - i)) (X 23) w3 := hv2; clear hv2; have hv2 := hV2; clear hV2; generalize X 23 = X23 at *
    have hV3 : (fun z_ _ => z_ = .slice (some ⟨b, off, none⟩) n0 c0) (X 24) w3 := hv3; clear hv3; have hv3 := hV3; clear hV3; generalize X 24 = X24 at *
    have hV4 : (fun z_ _ => z_ = .int .i64 (i : Int)) (X 25) w3 := hv4; clear hv4; have hv4 := hV4; clear hV4; generalize X 25 = X25 at *
    have hV5 : (fun z_ _ => z_ = .slice (some ⟨b, off, none⟩) i c0) (X 26) w3 := hv5; clear hv5; have hv5 := hV5; clear hV5; generalize X 26 = X26 at *
    have hV6 : (fun x w => ∃ b_ : Nat, x = .slice (some ⟨b_, 0, none⟩) 2 2 ∧ Bx w b_ #[.slice (some ⟨b, off + i * 2, none⟩) (n0 - i) (c0 - i), .slice (some ⟨b, off, none⟩) i c0] 35) (X 27) w3 := hv6; clear hv6; have hv6 := hV6; clear hV6; generalize X 27 = X27 at *
    have hV7 : (fun x w => ∃ q : Nat × Nat, x = .slice (some ⟨q.1, 0, none⟩) n0 q.2 ∧ Pts w (some ⟨q.1, 0, none⟩) n0 q.2 (fun j => f0 (rt n0 i j)) (fun j => g0 (rt n0 i j))) (X 28) w3 := hv7; clear hv7; have hv7 := hV7; clear hV7; generalize X 28 = X28 at *
    have hV8 : (fun x w => ∃ q : Nat × Nat, x = .slice (some ⟨q.1, 0, none⟩) n0 q.2 ∧ Pts w (some ⟨q.1, 0, none⟩) n0 q.2 (fun j => f0 (rt n0 i j)) (fun j => g0 (rt n0 i j))) (X 8) w3 := hv8; clear hv8; have hv8 := hV8; clear hV8; generalize X 8 = X8 at *
    obtain rfl := hv0
    obtain rfl := hv1
    obtain rfl := hv2
    obtain rfl := hv3
    obtain rfl := hv4
    obtain rfl := hv5
    clear hv6
    clear hv7
    obtain ⟨q8, rfl, S8⟩ := hv8
    have RC := Lib.hid (below_tr RB2.out hb); clear hb
    have FT_3 := Lib.hid (FT_2.out.below RC.out (Nat.le_refl _))
    have FX_3 := Lib.hid (FX_2.out.below RC.out (Nat.le_refl _))
    have FP_3 := Lib.hid (FP_2.out.below RC.out (Nat.le_refl _))
    have HB3 := Lib.hid (HB2.out.trans (RC.out.mono HB2.out.size))
    clear HB2 FT_2 FX_2 FP_2 RB2
    have FW := Lib.hid S8; clear S8
    refine wpListIn_nil ?_
    go_wp2_with fail
    refine (clone_row _ n0 _ _ _ _ FW.out (by omega)).mono ?_
    rintro e wB ⟨⟨g1, c1, cur, rfl, hg1, hBx, hc4, hcm, hcs, htk⟩, BB⟩
    have HBB := Lib.hid BB; have HBX := Lib.hid hBx; have HRW := Lib.hid (rowP_of htk); have HG1 := Lib.hid hg1; have HII := Lib.hid FW.out.isi; clear BB hBx hcs htk hg1
    go_wp2_with fail
    refine (reverse_pts g1 n0 c1 _ _ cur _ HBX.out HRW.out HII.out hc4 hcm).mono ?_
    rintro e w5 ⟨rfl, hY, BC⟩
    have B : Below w3.heap.size w3 w5 := HBB.out.trans (BC.mono HG1.out)
    have HB5 := Lib.hid (HB3.out.trans (B.mono HB3.out.size))
    have FT_5 := Lib.hid (FT_3.out.below B (Nat.le_refl _))
    have FX_5 := Lib.hid (FX_3.out.below B (Nat.le_refl _))
    have FP_5 := Lib.hid (FP_3.out.below B (Nat.le_refl _))
    have FW_5 := Lib.hid (FW.out.below B (Nat.le_refl _))
    have FY_5 := Lib.hid hY; clear hY B BC HBB HBX HRW HG1 HII hc4 hcm HB3 FT_3 FX_3 FP_3 FW
    go_wp2_with fail
    refine (polygon_Valid _ n0 _ f0 g0 _ FT_5.out FX_5.out).mono ?_
    rintro e w6 ⟨rfl, B⟩
    have HB6 := Lib.hid (HB5.out.trans (B.mono HB5.out.size))
    have FT_6 := Lib.hid (FT_5.out.below B (Nat.le_refl _))
    have FX_6 := Lib.hid (FX_5.out.below B (Nat.le_refl _))
    have FP_6 := Lib.hid (FP_5.out.below B (Nat.le_refl _))
    have FW_6 := Lib.hid (FW_5.out.below B (Nat.le_refl _))
    have FY_6 := Lib.hid (FY_5.out.below B (Nat.le_refl _))
    clear B  HB5 FT_5 FX_5 FP_5 FW_5 FY_5
    rw [HV.out, show msk true = 18446744073709551615 from rfl]
    go_wp2_with fail
    refine (polygon_Valid _ n0 _ _ _ _ FT_6.out FW_6.out).mono ?_
    rintro e w7 ⟨rfl, B⟩
    have HB7 := Lib.hid (HB6.out.trans (B.mono HB6.out.size))
    have FT_7 := Lib.hid (FT_6.out.below B (Nat.le_refl _))
    have FX_7 := Lib.hid (FX_6.out.below B (Nat.le_refl _))
    have FP_7 := Lib.hid (FP_6.out.below B (Nat.le_refl _))
    have FW_7 := Lib.hid (FW_6.out.below B (Nat.le_refl _))
    have FY_7 := Lib.hid (FY_6.out.below B (Nat.le_refl _))
    clear B  HB6 FT_6 FX_6 FP_6 FW_6 FY_6
    rw [HVW.out, HV.out, show msk true = 18446744073709551615 from rfl]
    go_wp2_with fail
    refine (polygon_Valid _ n0 _ _ _ _ FT_7.out FY_7.out).mono ?_
    rintro e w8 ⟨rfl, B⟩
    have HB8 := Lib.hid (HB7.out.trans (B.mono HB7.out.size))
    have FT_8 := Lib.hid (FT_7.out.below B (Nat.le_refl _))
    have FX_8 := Lib.hid (FX_7.out.below B (Nat.le_refl _))
    have FP_8 := Lib.hid (FP_7.out.below B (Nat.le_refl _))
    have FW_8 := Lib.hid (FW_7.out.below B (Nat.le_refl _))
    have FY_8 := Lib.hid (FY_7.out.below B (Nat.le_refl _))
    clear B  HB7 FT_7 FX_7 FP_7 FW_7 FY_7
    rw [HVY.out, HV.out, show msk true = 18446744073709551615 from rfl]
    have vP0 := FP_8.out.cell 0 (v := .int .i64 a2) rfl
    have vP1 := FP_8.out.cell 1 (v := .int .i64 b2) rfl
    go_wp2_with fail
    refine (polygon_Locate _ n0 _ f0 g0 a2 b2 ia2 ib2 _ FT_8.out FX_8.out).mono ?_
    rintro e w9 ⟨rfl, B⟩
    clear vP0 vP1
    have HB9 := Lib.hid (HB8.out.trans (B.mono HB8.out.size))
    have FT_9 := Lib.hid (FT_8.out.below B (Nat.le_refl _))
    have FX_9 := Lib.hid (FX_8.out.below B (Nat.le_refl _))
    have FP_9 := Lib.hid (FP_8.out.below B (Nat.le_refl _))
    have FW_9 := Lib.hid (FW_8.out.below B (Nat.le_refl _))
    have FY_9 := Lib.hid (FY_8.out.below B (Nat.le_refl _))
    clear B  HB8 FT_8 FX_8 FP_8 FW_8 FY_8
    go_wp2_with fail
    refine (alive14 _ FT_9.out).mono ?_
    rintro e w10 ⟨rfl, B⟩
    have HB10 := Lib.hid (HB9.out.trans (B.mono HB9.out.size))
    have FT_10 := Lib.hid (FT_9.out.below B (Nat.le_refl _))
    have FX_10 := Lib.hid (FX_9.out.below B (Nat.le_refl _))
    have FP_10 := Lib.hid (FP_9.out.below B (Nat.le_refl _))
    have FW_10 := Lib.hid (FW_9.out.below B (Nat.le_refl _))
    have FY_10 := Lib.hid (FY_9.out.below B (Nat.le_refl _))
    clear B  HB9 FT_9 FX_9 FP_9 FW_9 FY_9
    have vP0 := FP_10.out.cell 0 (v := .int .i64 a2) rfl
    have vP1 := FP_10.out.cell 1 (v := .int .i64 b2) rfl
    go_wp2_with fail
    refine (polygon_Locate _ n0 _ _ _ a2 b2 ia2 ib2 _ FT_10.out FW_10.out).mono ?_
    rintro e w11 ⟨rfl, B⟩
    clear vP0 vP1
    have HB11 := Lib.hid (HB10.out.trans (B.mono HB10.out.size))
    have FT_11 := Lib.hid (FT_10.out.below B (Nat.le_refl _))
    have FX_11 := Lib.hid (FX_10.out.below B (Nat.le_refl _))
    have FP_11 := Lib.hid (FP_10.out.below B (Nat.le_refl _))
    have FW_11 := Lib.hid (FW_10.out.below B (Nat.le_refl _))
    have FY_11 := Lib.hid (FY_10.out.below B (Nat.le_refl _))
    clear B  HB10 FT_10 FX_10 FP_10 FW_10 FY_10
    rw [HLW.out]
    have vP0 := FP_11.out.cell 0 (v := .int .i64 a2) rfl
    have vP1 := FP_11.out.cell 1 (v := .int .i64 b2) rfl
    go_wp2_with fail
    refine (polygon_Locate _ n0 _ _ _ a2 b2 ia2 ib2 _ FT_11.out FY_11.out).mono ?_
    rintro e w12 ⟨rfl, B⟩
    clear vP0 vP1
    have HB12 := Lib.hid (HB11.out.trans (B.mono HB11.out.size))
    have FT_12 := Lib.hid (FT_11.out.below B (Nat.le_refl _))
    have FX_12 := Lib.hid (FX_11.out.below B (Nat.le_refl _))
    have FP_12 := Lib.hid (FP_11.out.below B (Nat.le_refl _))
    have FW_12 := Lib.hid (FW_11.out.below B (Nat.le_refl _))
    have FY_12 := Lib.hid (FY_11.out.below B (Nat.le_refl _))
    clear B  HB11 FT_11 FX_11 FP_11 FW_11 FY_11
    rw [HLY.out]
    go_wp2_with fail
    refine (polygon_Orientation _ n0 _ _ _ _ FT_12.out FY_12.out).mono ?_
    rintro e w13 ⟨rfl, B⟩
    have HB13 := Lib.hid (HB12.out.trans (B.mono HB12.out.size))
    have FT_13 := Lib.hid (FT_12.out.below B (Nat.le_refl _))
    have FX_13 := Lib.hid (FX_12.out.below B (Nat.le_refl _))
    have FP_13 := Lib.hid (FP_12.out.below B (Nat.le_refl _))
    have FW_13 := Lib.hid (FW_12.out.below B (Nat.le_refl _))
    have FY_13 := Lib.hid (FY_12.out.below B (Nat.le_refl _))
    clear B  HB12 FT_12 FX_12 FP_12 FW_12 FY_12
    rw [HOY.out]
    go_wp2_with fail
    refine (polygon_Orientation _ n0 _ _ _ _ FT_13.out FW_13.out).mono ?_
    rintro e w14 ⟨rfl, B⟩
    have HB14 := Lib.hid (HB13.out.trans (B.mono HB13.out.size))
    have FT_14 := Lib.hid (FT_13.out.below B (Nat.le_refl _))
    have FX_14 := Lib.hid (FX_13.out.below B (Nat.le_refl _))
    have FP_14 := Lib.hid (FP_13.out.below B (Nat.le_refl _))
    have FW_14 := Lib.hid (FW_13.out.below B (Nat.le_refl _))
    have FY_14 := Lib.hid (FY_13.out.below B (Nat.le_refl _))
    clear B  HB13 FT_13 FX_13 FP_13 FW_13 FY_13
    rw [HOW.out]
    have wn1 : wrap64 (-(ori f0 g0 n0)) = -(ori f0 g0 n0) := by rw [← IntWalk.i64_left, IntKind.wrap_i64]; omega
    have wn2 : IntKind.i64.wrap (-(ori f0 g0 n0)) = -(ori f0 g0 n0) := by rw [IntKind.wrap_i64]; omega
    go_wp2_with fail
    go_ret
    exact ⟨rfl, HB14.out⟩

theorem gTab0 : Tryd.prog.globalNamed "geofence/mask.words" = some 0 := by kernel_rfl
theorem gTabType0 : (Tryd.prog.globals[0]?).map (·.type) = some 93 := by kernel_rfl
theorem cellsT0 : Tryd.prog.cellsOf 93 = 2 := by kernel_rfl
theorem cellsE0 : Tryd.prog.cellsOf 23 = 1 := by kernel_rfl
theorem tableIs0 {W : World} (h : laidMetH Tryd.prog Rows.polygonRotatesRow.laid W) : Lib.TabIs Tryd.prog W "geofence/mask.words" .u64 [9223372036854775808, 18446744073709551615] :=
  Lib.tabIs_of_head (rest := _) gTab0 gTabType0 Tryd.underlying93 Tryd.underlying23 cellsE0 cellsT0 h
theorem table0 {W : World} (h : laidMetH Tryd.prog Rows.polygonRotatesRow.laid W) : TabM W := ⟨(tableIs0 h).cell gTab0 0 (by decide), (tableIs0 h).cell gTab0 1 (by decide)⟩

set_option maxRecDepth 100000 in
theorem contract (H : Type) (enc : TypeId × Value → H) (W : World) (base : Nat) (args : Array Value) (ds gs : List (DataW H)) (before : List MemPlace)
    (hval : ∀ (j : Nat) t v, Tryd.f20.params[j]? = some t → args[j]? = some v → Value.okWide Tryd.prog W .any base t v)
    (hW : DataW.Whole enc Tryd.prog Tryd.f20.params.toList Rows.polygonRotatesSpec.vars false W args.toList ds gs before) (hL : laidMetH Tryd.prog Rows.polygonRotatesRow.laid W) :
    Calls Tryd.prog 20 args W fun e W' => ∃ v, e = .returned v ∧ Rows.polygonRotatesSpec.post enc Tryd.prog Tryd.f20 false true false false W args v W' := by
  have hW' := hW
  obtain ⟨p, q, hA0, hV, rfl, hfz, hnd⟩ := hW
  have hA : DataW.TrodAll enc Tryd.prog W 0 (fun _ => true) true Tryd.f20.params.toList args.toList ds p := hA0
  rw [Tryd.params20] at hA hval
  obtain ⟨v0, vs0, d0, ds0, p0, q0, hargs, rfl, rfl, h0, r0⟩ := trodAll_cons hA
  obtain ⟨v1, vs1, d1, ds1, p1, q1, rfl, rfl, rfl, h1, r1⟩ := trodAll_cons r0
  obtain ⟨v2, vs2, d2, ds2, p2, q2, rfl, rfl, rfl, h2, r2⟩ := trodAll_cons r1
  obtain ⟨rfl, rfl, rfl⟩ := trodAll_nil r2
  obtain rfl : args = #[v0, v1, v2] := by cases args; simp_all
  obtain ⟨rfl, rfl⟩ := trodVars_none hV
  have k0 := h0
  have lt0 : ∀ x ∈ p0, x.block < W.heap.size := by obtain ⟨m, hm⟩ := k0; exact DataW.trod_lt m _ _ _ hm
  have k1 := h1
  have lt1 : ∀ x ∈ p1, x.block < W.heap.size := by obtain ⟨m, hm⟩ := k1; exact DataW.trod_lt m _ _ _ hm
  have k2 := h2
  have lt2 : ∀ x ∈ p2, x.block < W.heap.size := by obtain ⟨m, hm⟩ := k2; exact DataW.trod_lt m _ _ _ hm
  obtain ⟨A0, n0, c0, rfl⟩ := okWide_slice Tryd.underlying35 (hval 0 35 v0 rfl rfl)
  obtain ⟨f0, g0, s0⟩ := Op.open_ptsl (w := W) Tryd.underlying35 Tryd.underlying28 rfl rfl rfl rfl Tryd.underlying2 (by kernel_rfl) (by kernel_rfl) h0
  obtain ⟨a1, rfl, rfl, rfl, w1⟩ := open_int Tryd.underlying5 (hval 1 5 v1 rfl rfl) h1
  obtain ⟨a2, b2, rfl, w2, x2⟩ := Op.open_pt Tryd.underlying28 rfl rfl rfl rfl Tryd.underlying2 (by kernel_rfl) (by kernel_rfl) h2
  clear hA0
  refine (walk A0 n0 c0 f0 g0 s0 a1 w1 a2 b2 w2 x2 (table0 hL)).mono fun e W' ⟨he, bel⟩ => ?_
  subst he
  exact ⟨_, rfl, _, _, _, [], _, [], hW', trodAll_mk1 (shut_bool Tryd.underlying4 _), (trodAll_cons_mk (Below.trod laidOut (by kernel_rfl) (of_decide_eq_true (by kernel_rfl)) k0 bel lt0) (trodAll_cons_mk (Below.trod laidOut (by kernel_rfl) (of_decide_eq_true (by kernel_rfl)) k1 bel lt1) (trodAll_cons_mk (Below.trod laidOut (by kernel_rfl) (of_decide_eq_true (by kernel_rfl)) k2 bel lt2) trodAll_mk0))), rfl, bel.frame _, fun h => by cases h⟩

theorem joined : joinedFacts Tryd.prog 20 Tryd.f20 (OpenSpec.ofChange Rows.polygonRotatesSpec).bare Rows.polygonRotatesRow = true := by
  have e1 := enterIs
  have e2 := liftsIs
  have e3 := makeIs
  generalize hP : Tryd.prog = P at *
  unfold joinedFacts
  simp only [Bool.and_eq_true]
  repeat' apply And.intro
  all_goals first
    | with_reducible exact e1
    | (rw [e2]; kernel_rfl)
    | (rw [e3]; kernel_rfl)
    | (subst hP; kernel_rfl)

noncomputable def laidHeap (os : Os) : Array Obj :=
  (World.holding Tryd.prog os ⟨#[], #[], []⟩).heap.modify 0 (fun
      | .cells _ t frozen => .cells #[.int .u64 9223372036854775808, .int .u64 18446744073709551615] t frozen
      | o => o)
noncomputable def laidWorld (os : Os) : World :=
  { World.holding Tryd.prog os ⟨#[], #[], []⟩ with heap := laidHeap os }
theorem laid_met (os : Os) : laidMet Tryd.prog Rows.polygonRotatesRow.laid ((laidWorld os).forCall (fun _ _ => 0) ⟨#[], #[.slice none 0 0, .int .u8 0, .agg #[.int .i64 0, .int .i64 0]], []⟩).memory :=
  laidMet_of_run' 8 (by kernel_rfl) (by kernel_rfl)
theorem reads (os : Os) {H : Type} (enc : TypeId × Value → H) : ∃ places, DataW.whole enc Tryd.prog ((laidWorld os).forCall (fun _ _ => 0) ⟨#[], #[.slice none 0 0, .int .u8 0, .agg #[.int .i64 0, .int .i64 0]], []⟩).memory Tryd.f20.params.toList Rows.polygonRotatesSpec.vars false (#[.slice none 0 0, .int .u8 0, .agg #[.int .i64 0, .int .i64 0]] : Array Value).toList 8 = some ([.nil, .lit (.int .u8 0), .agg [.lit (.int .i64 0), .lit (.int .i64 0)]], [], places) :=
  ⟨[], by kernel_rfl⟩

set_option maxRecDepth 100000 in
theorem lifted (os : Os) (started : os.Started) (H : Type) (enc : TypeId × Value → H) (F : Stop.Interp) :
    ReturnsInHanded {} Tryd.checked os 20 .any ((OpenSpec.ofChange Rows.polygonRotatesSpec).preRow enc Tryd.prog Tryd.f20 Rows.polygonRotatesRow.domain false Rows.polygonRotatesRow.laid) (((OpenSpec.ofChange Rows.polygonRotatesSpec).at F).post enc Tryd.prog Tryd.f20 false true false false) := by
  obtain ⟨places, hx⟩ := reads os enc
  refine returnsInHanded_of_row (C := Tryd.checked) (s := OpenSpec.ofChange Rows.polygonRotatesSpec) own started (by kernel_rfl) Tryd.func20
    (witness_row_at (enc := enc) (C := Tryd.checked) false (laidWorld os) #[.slice none 0 0, .int .u8 0, .agg #[.int .i64 0, .int .i64 0]] rfl (by kernel_rfl) (by kernel_rfl) (by kernel_rfl)
      (OpenSpec.preRow_of_cond 8 hx (by kernel_rfl) (fun k hk => by cases hk) (by kernel_rfl) (laid_met os))) ?_
  intro W base args ds gs before hval hW _ _ _ hL _ _
  exact contract H enc W base args ds gs before hval hW hL

theorem said : Rows.PolygonRotatesSaid :=
  OpenClaim.holds_of_cond 20 Tryd.f20 rfl rfl rfl rfl rfl rfl rfl ⟨rfl, rfl, rfl, rfl, rfl⟩ rfl rfl rfl rfl rfl (by kernel_rfl) Tryd.func20 (joined)
    (of_decide_eq_true (by kernel_rfl)) (by unfold Func.isWrapper; first | (rw [if_pos (by decide +kernel)]; kernel_rfl) | (rw [if_neg (by decide +kernel)]; exact ⟨rfl, rfl⟩))
    (fun os started H enc _ F => by rw [OpenClaim.pre_eq_preRow]; exact lifted os started H enc F)

theorem plain (f : FuncId) (fn : Func) (hf : Tryd.pinned.checked.prog.funcNamed "geofence/geofencelaw14.PolygonRotates" = some f) (hfn : Tryd.pinned.checked.prog.funcs[f]? = some fn) :
    false = Tryd.pinned.checked.prog.looks [] ∧ ∀ (j : Nat) t, fn.params[j]? = some t → Tryd.pinned.checked.prog.wantsStandIn t = false := by
  obtain rfl : f = 20 := Option.some.inj ((show Tryd.prog.funcNamed "geofence/geofencelaw14.PolygonRotates" = some 20 by kernel_rfl).symm.trans hf) |>.symm
  obtain rfl : fn = Tryd.f20 := (Option.some.inj (Tryd.func20.symm.trans hfn)).symm
  refine ⟨by kernel_rfl, fun j t ht => ?_⟩
  rw [Tryd.params20] at ht
  have hm := Array.mem_of_getElem? ht
  simp at hm
  rcases hm with rfl | rfl | rfl
  · exact (show Tryd.prog.wantsStandIn 35 = false by kernel_rfl)
  · exact (show Tryd.prog.wantsStandIn 5 = false by kernel_rfl)
  · exact (show Tryd.prog.wantsStandIn 28 = false by kernel_rfl)

/-- THE CARD -/
theorem card : Rows.PolygonRotatesCardSaid :=
  Claim7.holds_tied_plain_at .later [] _ _ _ _ said (fun _ h => by cases h) (by kernel_rfl) (fun _ h => by cases h) polygonRotates_row_tie rfl ⟨rfl, rfl⟩ (mainText) rfl plain (by kernel_rfl)
#print axioms card
end Go.Proofs.YtoikcgmdlccdbaaDoor.polygonRotates
