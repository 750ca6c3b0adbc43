/- Contract of alive of layer 14's laws. -/
import Derived.Test.YtoikcgmdlccdbaaDoorIns
import Derived.Test.YtoikcgmdlccdbaaDoorPolyV
namespace Go.Proofs.YtoikcgmdlccdbaaDoor
set_option linter.unusedVariables false
set_option linter.unusedSimpArgs false
open Go.RowKit Wd

def vX : Nat → Int := fun i => if i = 1 then 4 else if i = 2 then 4 else 0
def vY : Nat → Int := fun i => if i = 2 then 4 else if i = 3 then 4 else 0
def wX : Nat → Int := fun i => if i = 1 then 2 else if i = 2 then 4 else if i = 3 then 4 else 0
def wY : Nat → Int := fun i => if i = 3 then 4 else if i = 4 then 4 else 0
theorem isI_vX (i : Nat) : IsI (vX i) ∧ IsI (vY i) := by
  unfold vX vY IsI
  constructor <;> (repeat' split) <;> omega
theorem isI_wX (i : Nat) : IsI (wX i) ∧ IsI (wY i) := by
  unfold wX wY IsI
  constructor <;> (repeat' split) <;> omega
set_option maxHeartbeats 8000000 in
theorem alive14 (w : World) (hT : TabM w) :
    Calls Tryd.prog 39 #[] w fun e w' => e = .returned (.bool true) ∧ Below w.heap.size w w' := by
  have HB0 := Lib.hid (Below.refl w.heap.size w)
  have FT := Lib.hid hT
  clear hT
  go_enter Tryd.func39, Tryd.ntmps39
  go_wp2_with fail
  have B : Below w.heap.size w (w.alloc (.cells #[.int .i64 0, .int .i64 0, .int .i64 4, .int .i64 0, .int .i64 4, .int .i64 4, .int .i64 0, .int .i64 4] 28)) := (HB0.out.alloc HB0.out.size _)
  have C : Below w.heap.size w (w.alloc (.cells #[.int .i64 0, .int .i64 0, .int .i64 4, .int .i64 0, .int .i64 4, .int .i64 4, .int .i64 0, .int .i64 4] 28)) := ((Below.refl w.heap.size w).alloc (Nat.le_refl _) _)
  have X0 : Bx (w.alloc (.cells #[.int .i64 0, .int .i64 0, .int .i64 4, .int .i64 0, .int .i64 4, .int .i64 4, .int .i64 0, .int .i64 4] 28)) (w.heap.size) #[.int .i64 0, .int .i64 0, .int .i64 4, .int .i64 0, .int .i64 4, .int .i64 4, .int .i64 0, .int .i64 4] 28 := by simpa using (Bx.new w #[.int .i64 0, .int .i64 0, .int .i64 4, .int .i64 0, .int .i64 4, .int .i64 4, .int .i64 0, .int .i64 4] 28)
  have FT_1 := Lib.hid (FT.out.below C (Nat.le_refl _))
  have HB1 := Lib.hid B
  have FV_1 := Lib.hid X0
  clear B C X0 HB0 FT
  generalize (w.alloc (.cells #[.int .i64 0, .int .i64 0, .int .i64 4, .int .i64 0, .int .i64 4, .int .i64 4, .int .i64 0, .int .i64 4] 28)) = w1 at *
  have HXV := Lib.hid (show Pts w1 (some ⟨w.heap.size, 0, none⟩) 4 4 vX vY from bx_pts FV_1.out rfl (Nat.le_refl _) (by decide) (fun i _ => isI_vX i))
  clear FV_1
  have RT := FT_1; have RX := HXV; have RB := HB1
  refine (clone_row _ 4 4 vX vY _ RX.out (by omega)).mono ?_
  rintro e w2 ⟨⟨g1, c1, cur, rfl, hg1, hBx, hc4, hcm, hcs, htk⟩, B⟩
  have HB2 := Lib.hid B; have HR := Lib.hid hBx; have HG1 := Lib.hid hg1; clear B hBx hg1
  go_wp2_with fail
  have HP := Lib.hid (Bx.new w2 #[.int .i64 2, .int .i64 0] 28)
  have HR3 := Lib.hid (HR.out.alloc (.cells #[.int .i64 2, .int .i64 0] 28)); have HB3 := Lib.hid (HB2.out.alloc HB2.out.size (.cells #[.int .i64 2, .int .i64 0] 28)); have HLT := Lib.hid HR.out.lt
  refine (insert_any 0 0 4 0 4 4 0 4 2 0 wX wY rfl (fun i _ => isI_wX i) w1 g1 c1 w2.heap.size _ cur _ HB3.out HG1.out HR3.out hcs htk hc4 hcm HP.out (by have := HLT.out; omega)).mono ?_
  rintro e w4 ⟨⟨A', c', rfl, hX2⟩, B⟩
  have FX2 := Lib.hid hX2; have FT_4 := Lib.hid (RT.out.below B (Nat.le_refl _)); have FX_4 := Lib.hid (RX.out.below B (Nat.le_refl _)); have HB4 := Lib.hid (RB.out.trans (B.mono RB.out.size))
  clear hX2 B HB2 HR HG1 HP HR3 HB3 HLT RT RX RB hc4 hcm hcs htk FT_1 HB1
  go_wp2_with fail
  refine (polygon_Valid _ 4 _ vX vY _ FT_4.out FX_4.out).mono ?_
  rintro e w5 ⟨rfl, B⟩
  have HB5 := Lib.hid (HB4.out.trans (B.mono HB4.out.size))
  have FT_5 := Lib.hid (FT_4.out.below B (Nat.le_refl _))
  have FX_5 := Lib.hid (FX_4.out.below B (Nat.le_refl _))
  have FY_5 := Lib.hid (FX2.out.below B (Nat.le_refl _))
  clear B  HB4 FT_4 FX_4 FX2
  rw [show msk (validP vX vY 4) = 18446744073709551615 from by decide]
  go_wp2_with fail
  refine (polygon_Valid _ 5 _ wX wY _ FT_5.out FY_5.out).mono ?_
  rintro e w6 ⟨rfl, B⟩
  have HB6 := Lib.hid (HB5.out.trans (B.mono HB5.out.size))
  have FT_6 := Lib.hid (FT_5.out.below B (Nat.le_refl _))
  have FX_6 := Lib.hid (FX_5.out.below B (Nat.le_refl _))
  have FY_6 := Lib.hid (FY_5.out.below B (Nat.le_refl _))
  clear B  HB5 FT_5 FX_5 FY_5
  rw [show msk (validP wX wY 5) = 0 from by decide]
  go_wp2_with fail
  refine (polygon_Locate _ 4 _ vX vY 1 1 (by unfold IsI; omega) (by unfold IsI; omega) _ FT_6.out FX_6.out).mono ?_
  rintro e w7 ⟨rfl, B⟩
  have HB7 := Lib.hid (HB6.out.trans (B.mono HB6.out.size))
  have FT_7 := Lib.hid (FT_6.out.below B (Nat.le_refl _))
  have FX_7 := Lib.hid (FX_6.out.below B (Nat.le_refl _))
  have FY_7 := Lib.hid (FY_6.out.below B (Nat.le_refl _))
  clear B  HB6 FT_6 FX_6 FY_6
  rw [show locP vX vY 4 1 1 = 1 from by decide]
  go_wp2_with fail
  refine (polygon_Locate _ 4 _ vX vY 4 2 (by unfold IsI; omega) (by unfold IsI; omega) _ FT_7.out FX_7.out).mono ?_
  rintro e w8 ⟨rfl, B⟩
  have HB8 := Lib.hid (HB7.out.trans (B.mono HB7.out.size))
  have FT_8 := Lib.hid (FT_7.out.below B (Nat.le_refl _))
  have FX_8 := Lib.hid (FX_7.out.below B (Nat.le_refl _))
  have FY_8 := Lib.hid (FY_7.out.below B (Nat.le_refl _))
  clear B  HB7 FT_7 FX_7 FY_7
  rw [show locP vX vY 4 4 2 = 0 from by decide]
  go_wp2_with fail
  refine (polygon_Locate _ 4 _ vX vY 5 2 (by unfold IsI; omega) (by unfold IsI; omega) _ FT_8.out FX_8.out).mono ?_
  rintro e w9 ⟨rfl, B⟩
  have HB9 := Lib.hid (HB8.out.trans (B.mono HB8.out.size))
  have FT_9 := Lib.hid (FT_8.out.below B (Nat.le_refl _))
  have FX_9 := Lib.hid (FX_8.out.below B (Nat.le_refl _))
  have FY_9 := Lib.hid (FY_8.out.below B (Nat.le_refl _))
  clear B  HB8 FT_8 FX_8 FY_8
  rw [show locP vX vY 4 5 2 = -1 from by decide]
  go_wp2_with fail
  refine (polygon_Orientation _ 4 _ vX vY _ FT_9.out FX_9.out).mono ?_
  rintro e w10 ⟨rfl, B⟩
  have HB10 := Lib.hid (HB9.out.trans (B.mono HB9.out.size))
  have FT_10 := Lib.hid (FT_9.out.below B (Nat.le_refl _))
  have FX_10 := Lib.hid (FX_9.out.below B (Nat.le_refl _))
  have FY_10 := Lib.hid (FY_9.out.below B (Nat.le_refl _))
  clear B  HB9 FT_9 FX_9 FY_9
  rw [show ori vX vY 4 = 1 from by decide]
  go_wp2_with fail
  go_ret
  exact ⟨rfl, HB10.out⟩

end Go.Proofs.YtoikcgmdlccdbaaDoor
