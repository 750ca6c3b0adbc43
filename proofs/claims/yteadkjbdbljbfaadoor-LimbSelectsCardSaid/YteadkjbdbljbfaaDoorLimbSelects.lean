/- LimbSelects: for every input the law returns true, and each argument reads afterwards as it read before; the package variable that the row lists holds what it lists. -/
import Derived.Test.YteadkjbdbljbfaaDoorCards
import Derived.Test.YteadkjbdbljbfaaDoorTie
import Derived.Test.YteadkjbdbljbfaaDoorLaw3d
import Derived.Test.YteadkjbdbljbfaaDoorOpenSl
import Derived.WalkKit
import Derived.ProofKit
import Derived.OpenShut
import Derived.Below
import Derived.Deep.DeepHandedRow
import Derived.Lib.LaidTab
namespace Go.Proofs.YteadkjbdbljbfaaDoor.limbSelects
open Go.ChangeShapes Go.WideShapes Go.ChangeAt Go.RowKit Wd
set_option linter.unusedVariables false
set_option linter.unusedSimpArgs false

theorem own : ownKnob Tryd.prog.godebug = none := by kernel_rfl
theorem laidOut : laidOutB Tryd.prog = true := by kernel_rfl

set_option maxHeartbeats 2000000 in
theorem walk {w : World} (a0 : Int) (w0 : (Lit.int .u64 a0).wf = true) (A1 : Option Addr) (n1 c1 : Nat) (x1 : Int) (f1 : Fit n1 x1) (s1 : Sl w .u64 A1 n1 c1 (lmb x1)) (A2 : Option Addr) (n2 c2 : Nat) (x2 : Int) (f2 : Fit n2 x2) (s2 : Sl w .u64 A2 n2 c2 (lmb x2)) (hT : TabM w) :
    Calls Tryd.prog 5 #[.int .u64 a0, .slice A1 n1 c1, .slice A2 n2 c2] w fun e w' => e = .returned (.bool true) ∧ Below w.heap.size w w' := by
  have HT := Lib.hid hT; have HB0 := Lib.hid (Below.refl w.heap.size w)
  have FS1 := Lib.hid s1; have m1 : n1 ≤ maxLen := Nat.le_trans s1.cap s1.max
  have HF1 := Lib.hid f1
  have FS2 := Lib.hid s2; have m2 : n2 ≤ maxLen := Nat.le_trans s2.cap s2.max
  have HF2 := Lib.hid f2
  have i0 := isW_of_wf w0
  have z0 : 0 ≤ a0 := i0.1
  clear hT s1 f1 s2 f2
  have I0 := Lib.hid i0; clear i0
  cases hl : (lng n1 || lng n2)
  · have hl1 : n1 ≤ 50 := lng_false (by simp at hl; exact hl.1)
    have hl2 : n2 ≤ 50 := lng_false (by simp at hl; exact hl.2)
    cases h1 : isN n1
    · have hno : (isN n1 && isN n2) = false ∨ n1 ≠ n2 := .inl (by simp [h1])
      go_enter Tryd.func5, Tryd.ntmps5
      go_wp2_with fail
      refine (law_long2 _ A1 A2 n1 c1 n2 c2 m1 m2 _ (by simp [go_sem]) (by simp [go_sem])).mono ?_
      rintro e w1 ⟨rfl, rfl⟩
      rw [hl]
      go_wp2_with fail
      refine (limb_Select_no _ _ _ _ _ _ _ _ _ _ (FS1.out.alloc _) (FS2.out.alloc _) hno).mono ?_
      rintro e w2 ⟨rfl, B⟩
      have HB2 := Lib.hid ((HB0.out.alloc HB0.out.size _).trans (B.mono (HB0.out.alloc HB0.out.size _).size))
      have FT_2 := Lib.hid ((HT.out.alloc _).below B (Nat.le_refl _))
      have FS1_2 := Lib.hid ((FS1.out.alloc _).below B (Nat.le_refl _))
      have FS2_2 := Lib.hid ((FS2.out.alloc _).below B (Nat.le_refl _))
      clear B  HB0 HT FS1 FS2
      go_wp2_with fail
      refine (ref3_Is _ _ _ m1 _).mono ?_
      rintro e w3 ⟨rfl, rfl⟩
      rw [h1]
      go_wp2_with fail
      refine (alive3 _ FT_2.out).mono ?_
      rintro e w4 ⟨rfl, B⟩
      have HB4 := Lib.hid (HB2.out.trans (B.mono HB2.out.size))
      have FT_4 := Lib.hid (FT_2.out.below B (Nat.le_refl _))
      have FS1_4 := Lib.hid (FS1_2.out.below B (Nat.le_refl _))
      have FS2_4 := Lib.hid (FS2_2.out.below B (Nat.le_refl _))
      clear B  HB2 FT_2 FS1_2 FS2_2
      go_wp2_with fail
      go_ret
      exact ⟨rfl, HB4.out⟩
    · by_cases hs : n1 = n2
      · obtain rfl := hs
        have he : ((n1 : Int) != (n1 : Int)) = false := by simp
        have he2 : ((n1 : Int) == (n1 : Int)) = true := by simp
        rcases (by omega : a0 % 2 = 1 ∨ a0 % 2 = 0) with hm | hm
        · have hsel := Lib.hid (show decide (a0 % 2 = 1) = true by simpa using hm)
          have hm1 : ((a0 % 2 : Int) == 1) = true := by simpa using hm
          clear hm
          have OT := Lib.hid HT.out; have OS1 := Lib.hid FS1.out; have OS2 := Lib.hid FS2.out
          go_enter Tryd.func5, Tryd.ntmps5
          go_wp2_with fail
          refine (law_long2 _ A1 A2 n1 c1 n1 c2 m1 m1 _ (by simp [go_sem]) (by simp [go_sem])).mono ?_
          rintro e w1 ⟨rfl, rfl⟩
          rw [hl]
          go_wp2_with fail
          refine (limb_Select a0 I0.out _ _ _ _ _ _ _ _ (FS1.out.alloc _) (FS2.out.alloc _) (fun i _ => isW_lmb _ i) (fun i _ => isW_lmb _ i) h1).mono ?_
          rintro e w2 ⟨q, rfl, OW0, B⟩
          have OW := Ow.mk_ (base := w.heap.size) OW0 (HB0.out.alloc HB0.out.size _).size
          have HB2 := Lib.hid ((HB0.out.alloc HB0.out.size _).trans (B.mono (HB0.out.alloc HB0.out.size _).size))
          have FT_2 := Lib.hid ((HT.out.alloc _).below B (Nat.le_refl _))
          have FS1_2 := Lib.hid ((FS1.out.alloc _).below B (Nat.le_refl _))
          have FS2_2 := Lib.hid ((FS2.out.alloc _).below B (Nat.le_refl _))
          have FO_2 := Lib.hid OW
          clear B OW HB0 HT FS1 FS2
          clear OW0
          go_wp2_with fail
          refine (ref3_Is _ _ _ m1 _).mono ?_
          rintro e w3 ⟨rfl, rfl⟩
          rw [h1]
          go_wp2_with fail
          refine (ref3_Same _ _ _ _ _ _ _ _ (Ow.sl FO_2.out) FS1_2.out (fun i _ => by rw [hsel.out]; rfl)).mono ?_
          rintro e w4 ⟨rfl, B⟩
          have HB4 := Lib.hid (HB2.out.trans (B.mono HB2.out.size))
          have FT_4 := Lib.hid (FT_2.out.below B (Nat.le_refl _))
          have FS1_4 := Lib.hid (FS1_2.out.below B (Nat.le_refl _))
          have FS2_4 := Lib.hid (FS2_2.out.below B (Nat.le_refl _))
          have FO_4 := Lib.hid (FO_2.out.below B (Nat.le_refl _))
          clear B  HB2 FT_2 FS1_2 FS2_2 FO_2
          go_wp2_with fail
          have hq2 : w.heap.size ≤ q := Ow.ge FO_4.out
          have HO := Lib.hid (Ow.to_any (fun i _ => isW_selI (isW_lmb _ i) (isW_lmb _ i)) FO_4.out)
          clear FO_4
          go_loopw [46] (fun i wr => ∃ k : Nat, k ≤ n1 ∧ i = .int .i64 k ∧ OwAny wr w.heap.size q n1 ∧ Below w.heap.size w4 wr) (fun i _ => n1 - (intOf i).toNat)
          case atStart => exact ⟨0, Nat.zero_le _, rfl, HO.out, Below.refl _ _⟩
          case round =>
            clear HO
            obtain ⟨k, hk, rfl, hown, hbr⟩ := hrel
            by_cases hlt : k < n1
            · obtain ⟨h, hown, hw⟩ := hown
              have c4 := own_cell hown hlt
              have c5 : wr.frozen? ⟨q, k, none⟩ = false := World.ownsRow.frozenAt hown k
              have HOW := Lib.hid hown; have HBR := Lib.hid hbr; have HW := Lib.hid hw
              clear hown hbr hw
              go_wp2_with fail
              go_roundw
              case rel => exact ⟨k + 1, by omega, by go_num, OwAny.store HOW.out HW.out hlt (isW_wrap _), HBR.out.setCell (p := ⟨q, k, none⟩) hq2 _⟩
              case measure => simp [intOf]; omega
            · have HB5 := Lib.hid (HB4.out.trans hbr)
              have FT_5 := Lib.hid (OT.out.below HB5.out (Nat.le_refl _)); have FS1_5 := Lib.hid (OS1.out.below HB5.out (Nat.le_refl _)); have FS2_5 := Lib.hid (OS2.out.below HB5.out (Nat.le_refl _))
              clear hbr hown OT OS1 OS2 HB4 FT_4 FS1_4 FS2_4
              go_wp2_with fail
              refine (alive3 _ FT_5.out).mono ?_
              rintro e w6 ⟨rfl, B⟩
              have HB6 := Lib.hid (HB5.out.trans (B.mono HB5.out.size))
              have FT_6 := Lib.hid (FT_5.out.below B (Nat.le_refl _))
              have FS1_6 := Lib.hid (FS1_5.out.below B (Nat.le_refl _))
              have FS2_6 := Lib.hid (FS2_5.out.below B (Nat.le_refl _))
              clear B  HB5 FT_5 FS1_5 FS2_5
              go_wp2_with fail
              refine (limb_Select a0 I0.out _ _ _ _ _ _ _ _ FS1_6.out FS2_6.out (fun i _ => isW_lmb _ i) (fun i _ => isW_lmb _ i) h1).mono ?_
              rintro e w7 ⟨q2, rfl, OW0, B⟩
              have OW := Ow.mk_ (base := w.heap.size) OW0 HB6.out.size
              have HB7 := Lib.hid (HB6.out.trans (B.mono HB6.out.size))
              have FT_7 := Lib.hid (FT_6.out.below B (Nat.le_refl _))
              have FS1_7 := Lib.hid (FS1_6.out.below B (Nat.le_refl _))
              have FS2_7 := Lib.hid (FS2_6.out.below B (Nat.le_refl _))
              have FO_7 := Lib.hid OW
              clear B OW HB6 FT_6 FS1_6 FS2_6
              clear OW0
              go_wp2_with fail
              refine (ref3_Same _ _ _ _ _ _ _ _ (Ow.sl FO_7.out) FS1_7.out (fun i _ => by rw [hsel.out]; rfl)).mono ?_
              rintro e w8 ⟨rfl, B⟩
              have HB8 := Lib.hid (HB7.out.trans (B.mono HB7.out.size))
              have FT_8 := Lib.hid (FT_7.out.below B (Nat.le_refl _))
              have FS1_8 := Lib.hid (FS1_7.out.below B (Nat.le_refl _))
              have FS2_8 := Lib.hid (FS2_7.out.below B (Nat.le_refl _))
              have FO_8 := Lib.hid (FO_7.out.below B (Nat.le_refl _))
              clear B  HB7 FT_7 FS1_7 FS2_7 FO_7
              go_wp2_with fail
              go_ret
              exact ⟨rfl, HB8.out⟩
        · have hsel := Lib.hid (show decide (a0 % 2 = 1) = false by simp; omega)
          have hm1 : ((a0 % 2 : Int) == 1) = false := by simp; omega
          clear hm
          have OT := Lib.hid HT.out; have OS1 := Lib.hid FS1.out; have OS2 := Lib.hid FS2.out
          go_enter Tryd.func5, Tryd.ntmps5
          go_wp2_with fail
          refine (law_long2 _ A1 A2 n1 c1 n1 c2 m1 m1 _ (by simp [go_sem]) (by simp [go_sem])).mono ?_
          rintro e w1 ⟨rfl, rfl⟩
          rw [hl]
          go_wp2_with fail
          refine (limb_Select a0 I0.out _ _ _ _ _ _ _ _ (FS1.out.alloc _) (FS2.out.alloc _) (fun i _ => isW_lmb _ i) (fun i _ => isW_lmb _ i) h1).mono ?_
          rintro e w2 ⟨q, rfl, OW0, B⟩
          have OW := Ow.mk_ (base := w.heap.size) OW0 (HB0.out.alloc HB0.out.size _).size
          have HB2 := Lib.hid ((HB0.out.alloc HB0.out.size _).trans (B.mono (HB0.out.alloc HB0.out.size _).size))
          have FT_2 := Lib.hid ((HT.out.alloc _).below B (Nat.le_refl _))
          have FS1_2 := Lib.hid ((FS1.out.alloc _).below B (Nat.le_refl _))
          have FS2_2 := Lib.hid ((FS2.out.alloc _).below B (Nat.le_refl _))
          have FO_2 := Lib.hid OW
          clear B OW HB0 HT FS1 FS2
          clear OW0
          go_wp2_with fail
          refine (ref3_Is _ _ _ m1 _).mono ?_
          rintro e w3 ⟨rfl, rfl⟩
          rw [h1]
          go_wp2_with fail
          refine (ref3_Same _ _ _ _ _ _ _ _ (Ow.sl FO_2.out) FS2_2.out (fun i _ => by rw [hsel.out]; rfl)).mono ?_
          rintro e w4 ⟨rfl, B⟩
          have HB4 := Lib.hid (HB2.out.trans (B.mono HB2.out.size))
          have FT_4 := Lib.hid (FT_2.out.below B (Nat.le_refl _))
          have FS1_4 := Lib.hid (FS1_2.out.below B (Nat.le_refl _))
          have FS2_4 := Lib.hid (FS2_2.out.below B (Nat.le_refl _))
          have FO_4 := Lib.hid (FO_2.out.below B (Nat.le_refl _))
          clear B  HB2 FT_2 FS1_2 FS2_2 FO_2
          go_wp2_with fail
          have hq2 : w.heap.size ≤ q := Ow.ge FO_4.out
          have HO := Lib.hid (Ow.to_any (fun i _ => isW_selI (isW_lmb _ i) (isW_lmb _ i)) FO_4.out)
          clear FO_4
          go_loopw [46] (fun i wr => ∃ k : Nat, k ≤ n1 ∧ i = .int .i64 k ∧ OwAny wr w.heap.size q n1 ∧ Below w.heap.size w4 wr) (fun i _ => n1 - (intOf i).toNat)
          case atStart => exact ⟨0, Nat.zero_le _, rfl, HO.out, Below.refl _ _⟩
          case round =>
            clear HO
            obtain ⟨k, hk, rfl, hown, hbr⟩ := hrel
            by_cases hlt : k < n1
            · obtain ⟨h, hown, hw⟩ := hown
              have c4 := own_cell hown hlt
              have c5 : wr.frozen? ⟨q, k, none⟩ = false := World.ownsRow.frozenAt hown k
              have HOW := Lib.hid hown; have HBR := Lib.hid hbr; have HW := Lib.hid hw
              clear hown hbr hw
              go_wp2_with fail
              go_roundw
              case rel => exact ⟨k + 1, by omega, by go_num, OwAny.store HOW.out HW.out hlt (isW_wrap _), HBR.out.setCell (p := ⟨q, k, none⟩) hq2 _⟩
              case measure => simp [intOf]; omega
            · have HB5 := Lib.hid (HB4.out.trans hbr)
              have FT_5 := Lib.hid (OT.out.below HB5.out (Nat.le_refl _)); have FS1_5 := Lib.hid (OS1.out.below HB5.out (Nat.le_refl _)); have FS2_5 := Lib.hid (OS2.out.below HB5.out (Nat.le_refl _))
              clear hbr hown OT OS1 OS2 HB4 FT_4 FS1_4 FS2_4
              go_wp2_with fail
              refine (alive3 _ FT_5.out).mono ?_
              rintro e w6 ⟨rfl, B⟩
              have HB6 := Lib.hid (HB5.out.trans (B.mono HB5.out.size))
              have FT_6 := Lib.hid (FT_5.out.below B (Nat.le_refl _))
              have FS1_6 := Lib.hid (FS1_5.out.below B (Nat.le_refl _))
              have FS2_6 := Lib.hid (FS2_5.out.below B (Nat.le_refl _))
              clear B  HB5 FT_5 FS1_5 FS2_5
              go_wp2_with fail
              refine (limb_Select a0 I0.out _ _ _ _ _ _ _ _ FS1_6.out FS2_6.out (fun i _ => isW_lmb _ i) (fun i _ => isW_lmb _ i) h1).mono ?_
              rintro e w7 ⟨q2, rfl, OW0, B⟩
              have OW := Ow.mk_ (base := w.heap.size) OW0 HB6.out.size
              have HB7 := Lib.hid (HB6.out.trans (B.mono HB6.out.size))
              have FT_7 := Lib.hid (FT_6.out.below B (Nat.le_refl _))
              have FS1_7 := Lib.hid (FS1_6.out.below B (Nat.le_refl _))
              have FS2_7 := Lib.hid (FS2_6.out.below B (Nat.le_refl _))
              have FO_7 := Lib.hid OW
              clear B OW HB6 FT_6 FS1_6 FS2_6
              clear OW0
              go_wp2_with fail
              refine (ref3_Same _ _ _ _ _ _ _ _ (Ow.sl FO_7.out) FS2_7.out (fun i _ => by rw [hsel.out]; rfl)).mono ?_
              rintro e w8 ⟨rfl, B⟩
              have HB8 := Lib.hid (HB7.out.trans (B.mono HB7.out.size))
              have FT_8 := Lib.hid (FT_7.out.below B (Nat.le_refl _))
              have FS1_8 := Lib.hid (FS1_7.out.below B (Nat.le_refl _))
              have FS2_8 := Lib.hid (FS2_7.out.below B (Nat.le_refl _))
              have FO_8 := Lib.hid (FO_7.out.below B (Nat.le_refl _))
              clear B  HB7 FT_7 FS1_7 FS2_7 FO_7
              go_wp2_with fail
              go_ret
              exact ⟨rfl, HB8.out⟩
      · have hno : (isN n1 && isN n2) = false ∨ n1 ≠ n2 := .inr hs
        have he : ((n1 : Int) != (n2 : Int)) = true := by simp; omega
        go_enter Tryd.func5, Tryd.ntmps5
        go_wp2_with fail
        refine (law_long2 _ A1 A2 n1 c1 n2 c2 m1 m2 _ (by simp [go_sem]) (by simp [go_sem])).mono ?_
        rintro e w1 ⟨rfl, rfl⟩
        rw [hl]
        go_wp2_with fail
        refine (limb_Select_no _ _ _ _ _ _ _ _ _ _ (FS1.out.alloc _) (FS2.out.alloc _) hno).mono ?_
        rintro e w2 ⟨rfl, B⟩
        have HB2 := Lib.hid ((HB0.out.alloc HB0.out.size _).trans (B.mono (HB0.out.alloc HB0.out.size _).size))
        have FT_2 := Lib.hid ((HT.out.alloc _).below B (Nat.le_refl _))
        have FS1_2 := Lib.hid ((FS1.out.alloc _).below B (Nat.le_refl _))
        have FS2_2 := Lib.hid ((FS2.out.alloc _).below B (Nat.le_refl _))
        clear B  HB0 HT FS1 FS2
        go_wp2_with fail
        refine (ref3_Is _ _ _ m1 _).mono ?_
        rintro e w3 ⟨rfl, rfl⟩
        rw [h1]
        go_wp2_with fail
        refine (alive3 _ FT_2.out).mono ?_
        rintro e w4 ⟨rfl, B⟩
        have HB4 := Lib.hid (HB2.out.trans (B.mono HB2.out.size))
        have FT_4 := Lib.hid (FT_2.out.below B (Nat.le_refl _))
        have FS1_4 := Lib.hid (FS1_2.out.below B (Nat.le_refl _))
        have FS2_4 := Lib.hid (FS2_2.out.below B (Nat.le_refl _))
        clear B  HB2 FT_2 FS1_2 FS2_2
        go_wp2_with fail
        go_ret
        exact ⟨rfl, HB4.out⟩
  · go_enter Tryd.func5, Tryd.ntmps5
    go_wp2_with fail
    refine (law_long2 _ A1 A2 n1 c1 n2 c2 m1 m2 _ (by simp [go_sem]) (by simp [go_sem])).mono ?_
    rintro e w1 ⟨rfl, rfl⟩
    rw [hl]
    go_wp2_with fail
    refine (alive3 _ (HT.out.alloc _)).mono ?_
    rintro e w2 ⟨rfl, B⟩
    have HB2 := Lib.hid ((HB0.out.alloc HB0.out.size _).trans (B.mono (HB0.out.alloc HB0.out.size _).size))
    have FT_2 := Lib.hid ((HT.out.alloc _).below B (Nat.le_refl _))
    have FS1_2 := Lib.hid ((FS1.out.alloc _).below B (Nat.le_refl _))
    have FS2_2 := Lib.hid ((FS2.out.alloc _).below B (Nat.le_refl _))
    clear B  HB0 HT FS1 FS2
    go_wp2_with fail
    go_ret
    exact ⟨rfl, HB2.out⟩

theorem gTab0 : Tryd.prog.globalNamed "geofence/mask.words" = some 0 := by kernel_rfl
theorem gTabType : (Tryd.prog.globals[0]?).map (·.type) = some 69 := by kernel_rfl
theorem cellsT : Tryd.prog.cellsOf 69 = 2 := by kernel_rfl
theorem cellsE : Tryd.prog.cellsOf 38 = 1 := by kernel_rfl
theorem tableIs {W : World} (h : laidMetH Tryd.prog Rows.limbSelectsRow.laid W) : Lib.TabIs Tryd.prog W "geofence/mask.words" .u64 [9223372036854775808, 18446744073709551615] :=
  Lib.tabIs_of_head (rest := _) gTab0 gTabType Tryd.underlying69 Tryd.underlying38 cellsE cellsT h
theorem table {W : World} (h : laidMetH Tryd.prog Rows.limbSelectsRow.laid W) : TabM W := ⟨(tableIs h).cell gTab0 0 (by decide), (tableIs h).cell gTab0 1 (by decide)⟩

theorem contract (H : Type) (enc : TypeId × Value → H) (W : World) (base : Nat) (args : Array Value) (ds gs : List (DataW H)) (before : List MemPlace)
    (hval : ∀ (j : Nat) t v, Tryd.f5.params[j]? = some t → args[j]? = some v → Value.okWide Tryd.prog W .any base t v)
    (hW : DataW.Whole enc Tryd.prog Tryd.f5.params.toList Rows.limbSelectsSpec.vars false W args.toList ds gs before) (hL : laidMetH Tryd.prog Rows.limbSelectsRow.laid W) :
    Calls Tryd.prog 5 args W fun e W' => ∃ v, e = .returned v ∧ Rows.limbSelectsSpec.post enc Tryd.prog Tryd.f5 false true false false W args v W' := by
  have hW' := hW
  obtain ⟨p, q, hA0, hV, rfl, hfz, hnd⟩ := hW
  have hA : DataW.TrodAll enc Tryd.prog W 0 (fun _ => true) true Tryd.f5.params.toList args.toList ds p := hA0
  rw [Tryd.params5] at hA hval
  obtain ⟨v0, vs0, d0, ds0, p0, q0, hargs, rfl, rfl, h0, r0⟩ := trodAll_cons hA
  obtain ⟨v1, vs1, d1, ds1, p1, q1, rfl, rfl, rfl, h1, r1⟩ := trodAll_cons r0
  obtain ⟨v2, vs2, d2, ds2, p2, q2, rfl, rfl, rfl, h2, r2⟩ := trodAll_cons r1
  obtain ⟨rfl, rfl, rfl⟩ := trodAll_nil r2
  obtain rfl : args = #[v0, v1, v2] := by cases args; simp_all
  obtain ⟨rfl, rfl⟩ := trodVars_none hV
  have k0 := h0
  have lt0 : ∀ x ∈ p0, x.block < W.heap.size := by obtain ⟨m, hm⟩ := k0; exact DataW.trod_lt m _ _ _ hm
  have k1 := h1
  have lt1 : ∀ x ∈ p1, x.block < W.heap.size := by obtain ⟨m, hm⟩ := k1; exact DataW.trod_lt m _ _ _ hm
  have k2 := h2
  have lt2 : ∀ x ∈ p2, x.block < W.heap.size := by obtain ⟨m, hm⟩ := k2; exact DataW.trod_lt m _ _ _ hm
  obtain ⟨a0, rfl, rfl, rfl, w0⟩ := open_int Tryd.underlying38 (hval 0 38 v0 rfl rfl) h0
  obtain ⟨A1, n1, c1, rfl⟩ := okWide_slice Tryd.underlying22 (hval 1 22 v1 rfl rfl)
  obtain ⟨x1, f1, s1⟩ := Op.open_words (w := W) Tryd.underlying22 Tryd.underlying38 (by kernel_rfl) h1
  obtain ⟨A2, n2, c2, rfl⟩ := okWide_slice Tryd.underlying22 (hval 2 22 v2 rfl rfl)
  obtain ⟨x2, f2, s2⟩ := Op.open_words (w := W) Tryd.underlying22 Tryd.underlying38 (by kernel_rfl) h2
  clear hA0
  refine (walk a0 w0 A1 n1 c1 x1 f1 s1 A2 n2 c2 x2 f2 s2 (table hL)).mono fun e W' ⟨he, bel⟩ => ?_
  subst he
  exact ⟨_, rfl, _, _, _, [], _, [], hW', trodAll_mk1 (shut_bool Tryd.underlying4 _), (trodAll_cons_mk (Below.trod laidOut (by kernel_rfl) (of_decide_eq_true (by kernel_rfl)) k0 bel lt0) (trodAll_cons_mk (Below.trod laidOut (by kernel_rfl) (of_decide_eq_true (by kernel_rfl)) k1 bel lt1) (trodAll_cons_mk (Below.trod laidOut (by kernel_rfl) (of_decide_eq_true (by kernel_rfl)) k2 bel lt2) trodAll_mk0))), rfl, bel.frame _, fun h => by cases h⟩

noncomputable def laidWorld (os : Os) : World :=
  { World.holding Tryd.prog os ⟨#[], #[], []⟩ with heap := (World.holding Tryd.prog os ⟨#[], #[], []⟩).heap.modify 0 fun
      | .cells _ t frozen => .cells #[.int .u64 9223372036854775808, .int .u64 18446744073709551615] t frozen
      | o => o }
theorem laid_met (os : Os) : laidMet Tryd.prog Rows.limbSelectsRow.laid ((laidWorld os).forCall (fun _ _ => 0) ⟨#[], #[.int .u64 0, .slice none 0 0, .slice none 0 0], []⟩).memory :=
  laidMet_of_run' 8 (by kernel_rfl) (by kernel_rfl)
theorem reads (os : Os) {H : Type} (enc : TypeId × Value → H) : ∃ places, DataW.whole enc Tryd.prog ((laidWorld os).forCall (fun _ _ => 0) ⟨#[], #[.int .u64 0, .slice none 0 0, .slice none 0 0], []⟩).memory Tryd.f5.params.toList Rows.limbSelectsSpec.vars false (#[.int .u64 0, .slice none 0 0, .slice none 0 0] : Array Value).toList 8 = some ([.lit (.int .u64 0), .nil, .nil], [], places) :=
  ⟨[], by kernel_rfl⟩

set_option maxRecDepth 100000 in
theorem lifted (os : Os) (started : os.Started) (H : Type) (enc : TypeId × Value → H) (F : Stop.Interp) :
    ReturnsInHanded {} Tryd.checked os 5 .any ((OpenSpec.ofChange Rows.limbSelectsSpec).preRow enc Tryd.prog Tryd.f5 Rows.limbSelectsRow.domain false Rows.limbSelectsRow.laid) (((OpenSpec.ofChange Rows.limbSelectsSpec).at F).post enc Tryd.prog Tryd.f5 false true false false) := by
  obtain ⟨places, hx⟩ := reads os enc
  refine returnsInHanded_of_row (C := Tryd.checked) (s := OpenSpec.ofChange Rows.limbSelectsSpec) own started (by kernel_rfl) Tryd.func5
    (witness_row_at (enc := enc) (C := Tryd.checked) false (laidWorld os) #[.int .u64 0, .slice none 0 0, .slice none 0 0] rfl (by kernel_rfl) (by kernel_rfl) (by kernel_rfl)
      (OpenSpec.preRow_of_cond 8 hx (by kernel_rfl) (fun k hk => by cases hk) (by kernel_rfl) (laid_met os))) ?_
  intro W base args ds gs before hval hW _ _ _ hL _ _
  exact contract H enc W base args ds gs before hval hW hL

theorem said : Rows.LimbSelectsSaid :=
  OpenClaim.holds_of_cond 5 Tryd.f5 rfl rfl rfl rfl rfl rfl rfl ⟨rfl, rfl, rfl, rfl, rfl⟩ rfl rfl rfl rfl rfl (by kernel_rfl) Tryd.func5 (by kernel_rfl)
    (of_decide_eq_true (by kernel_rfl)) (by unfold Func.isWrapper; first | (rw [if_pos (by decide +kernel)]; kernel_rfl) | (rw [if_neg (by decide +kernel)]; exact ⟨rfl, rfl⟩))
    (fun os started H enc _ F => by rw [OpenClaim.pre_eq_preRow]; exact lifted os started H enc F)

theorem plain (f : FuncId) (fn : Func) (hf : Tryd.pinned.checked.prog.funcNamed "geofence/geofencelaw03.LimbSelects" = some f) (hfn : Tryd.pinned.checked.prog.funcs[f]? = some fn) :
    false = Tryd.pinned.checked.prog.looks [] ∧ ∀ (j : Nat) t, fn.params[j]? = some t → Tryd.pinned.checked.prog.wantsStandIn t = false := by
  obtain rfl : f = 5 := Option.some.inj ((show Tryd.prog.funcNamed "geofence/geofencelaw03.LimbSelects" = some 5 by kernel_rfl).symm.trans hf) |>.symm
  obtain rfl : fn = Tryd.f5 := (Option.some.inj (Tryd.func5.symm.trans hfn)).symm
  refine ⟨by kernel_rfl, fun j t ht => ?_⟩
  rw [Tryd.params5] at ht
  have hm := Array.mem_of_getElem? ht
  simp at hm
  rcases hm with rfl | rfl
  · exact (show Tryd.prog.wantsStandIn 38 = false by kernel_rfl)
  · exact (show Tryd.prog.wantsStandIn 22 = false by kernel_rfl)

/-- THE CARD -/
theorem card : Rows.LimbSelectsCardSaid :=
  Claim7.holds_tied_plain_at .later [] _ _ _ _ said (fun _ h => by cases h) (by kernel_rfl) (fun _ h => by cases h) limbSelects_row_tie rfl ⟨rfl, rfl⟩ (by kernel_rfl) rfl plain (by kernel_rfl)
#print axioms card
end Go.Proofs.YteadkjbdbljbfaaDoor.limbSelects
