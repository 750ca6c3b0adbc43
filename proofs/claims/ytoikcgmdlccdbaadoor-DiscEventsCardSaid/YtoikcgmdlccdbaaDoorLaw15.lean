/- Contract of alive of layer 15's laws. -/
import Derived.Test.YtoikcgmdlccdbaaDoorDisc
import Derived.Test.YtoikcgmdlccdbaaDoorLaw7
namespace Go.Proofs.YtoikcgmdlccdbaaDoor
set_option linter.unusedVariables false
set_option linter.unusedSimpArgs false
open Go.RowKit Wd

set_option maxHeartbeats 8000000 in
theorem alive15 (w : World) (hT : TabM w) :
    Calls Tryd.prog 31 #[] w fun e w' => e = .returned (.bool true) ∧ Below w.heap.size w w' := by
  have HB0 := Lib.hid (Below.refl w.heap.size w)
  have FT := Lib.hid hT
  clear hT
  go_enter Tryd.func31, Tryd.ntmps31
  go_wp2_with fail
  have B : Below w.heap.size w (w.alloc (.cells #[.int .i64 5, .int .i64 0, .int .i64 0, .int .i64 5, .int .i64 (-5), .int .i64 0] 28)) := (HB0.out.alloc HB0.out.size _)
  have C : Below w.heap.size w (w.alloc (.cells #[.int .i64 5, .int .i64 0, .int .i64 0, .int .i64 5, .int .i64 (-5), .int .i64 0] 28)) := ((Below.refl w.heap.size w).alloc (Nat.le_refl _) _)
  have X0 : Bx (w.alloc (.cells #[.int .i64 5, .int .i64 0, .int .i64 0, .int .i64 5, .int .i64 (-5), .int .i64 0] 28)) (w.heap.size) #[.int .i64 5, .int .i64 0, .int .i64 0, .int .i64 5, .int .i64 (-5), .int .i64 0] 28 := by simpa using (Bx.new w #[.int .i64 5, .int .i64 0, .int .i64 0, .int .i64 5, .int .i64 (-5), .int .i64 0] 28)
  have FT_1 := Lib.hid (FT.out.below C (Nat.le_refl _))
  have HB1 := Lib.hid B
  have FV_1 := Lib.hid X0
  clear B C X0 HB0 FT
  generalize (w.alloc (.cells #[.int .i64 5, .int .i64 0, .int .i64 0, .int .i64 5, .int .i64 (-5), .int .i64 0] 28)) = w1 at *
  skip
  refine (disc_Valid3 _ 3 5 0 0 5 (-5) 0 ⟨by unfold IsI; omega, by unfold IsI; omega, by unfold IsI; omega, by unfold IsI; omega, by unfold IsI; omega, by unfold IsI; omega⟩ _ FT_1.out FV_1.out.t3).mono ?_
  rintro e w2 ⟨rfl, B⟩
  have HB2 := Lib.hid (HB1.out.trans (B.mono HB1.out.size))
  have FT_2 := Lib.hid (FT_1.out.below B (Nat.le_refl _))
  have FV_2 := Lib.hid (FV_1.out.below B (Nat.le_refl _))
  clear B  HB1 FT_1 FV_1
  rw [show msk (!decide (det 5 0 0 5 (-5) 0 = 0)) = 18446744073709551615 from by decide]
  go_wp2_with fail
  have B : Below w.heap.size w (w2.alloc (.cells #[.int .i64 0, .int .i64 0, .int .i64 1, .int .i64 1, .int .i64 2, .int .i64 2] 28)) := (HB2.out.alloc HB2.out.size _)
  have C : Below w2.heap.size w2 (w2.alloc (.cells #[.int .i64 0, .int .i64 0, .int .i64 1, .int .i64 1, .int .i64 2, .int .i64 2] 28)) := ((Below.refl w2.heap.size w2).alloc (Nat.le_refl _) _)
  have X0 : Bx (w2.alloc (.cells #[.int .i64 0, .int .i64 0, .int .i64 1, .int .i64 1, .int .i64 2, .int .i64 2] 28)) (w2.heap.size) #[.int .i64 0, .int .i64 0, .int .i64 1, .int .i64 1, .int .i64 2, .int .i64 2] 28 := by simpa using (Bx.new w2 #[.int .i64 0, .int .i64 0, .int .i64 1, .int .i64 1, .int .i64 2, .int .i64 2] 28)
  have FT_3 := Lib.hid (FT_2.out.below C (Nat.le_refl _))
  have FV_3 := Lib.hid (FV_2.out.below C (Nat.le_refl _))
  have HB3 := Lib.hid B
  have FU_3 := Lib.hid X0
  clear B C X0 HB2 FT_2 FV_2
  generalize (w2.alloc (.cells #[.int .i64 0, .int .i64 0, .int .i64 1, .int .i64 1, .int .i64 2, .int .i64 2] 28)) = w3 at *
  skip
  refine (disc_Valid3 _ 3 0 0 1 1 2 2 ⟨by unfold IsI; omega, by unfold IsI; omega, by unfold IsI; omega, by unfold IsI; omega, by unfold IsI; omega, by unfold IsI; omega⟩ _ FT_3.out FU_3.out.t3).mono ?_
  rintro e w4 ⟨rfl, B⟩
  have HB4 := Lib.hid (HB3.out.trans (B.mono HB3.out.size))
  have FT_4 := Lib.hid (FT_3.out.below B (Nat.le_refl _))
  have FV_4 := Lib.hid (FV_3.out.below B (Nat.le_refl _))
  have FU_4 := Lib.hid (FU_3.out.below B (Nat.le_refl _))
  clear B  HB3 FT_3 FV_3 FU_3
  rw [show msk (!decide (det 0 0 1 1 2 2 = 0)) = 0 from by decide]
  go_wp2_with fail
  refine (disc_Locate3 _ 3 5 0 0 5 (-5) 0 3 4 ⟨by unfold IsI; omega, by unfold IsI; omega, by unfold IsI; omega, by unfold IsI; omega, by unfold IsI; omega, by unfold IsI; omega, by unfold IsI; omega, by unfold IsI; omega⟩ _ FT_4.out FV_4.out.t3).mono ?_
  rintro e w5 ⟨rfl, B⟩
  have HB5 := Lib.hid (HB4.out.trans (B.mono HB4.out.size))
  have FT_5 := Lib.hid (FT_4.out.below B (Nat.le_refl _))
  have FV_5 := Lib.hid (FV_4.out.below B (Nat.le_refl _))
  clear B  HB4 FT_4 FV_4
  rw [show sg (circ 5 0 0 5 (-5) 0 3 4) * sg (det 5 0 0 5 (-5) 0) = 0 from by decide]
  go_wp2_with fail
  refine (disc_Locate3 _ 3 5 0 0 5 (-5) 0 1 1 ⟨by unfold IsI; omega, by unfold IsI; omega, by unfold IsI; omega, by unfold IsI; omega, by unfold IsI; omega, by unfold IsI; omega, by unfold IsI; omega, by unfold IsI; omega⟩ _ FT_5.out FV_5.out.t3).mono ?_
  rintro e w6 ⟨rfl, B⟩
  have HB6 := Lib.hid (HB5.out.trans (B.mono HB5.out.size))
  have FT_6 := Lib.hid (FT_5.out.below B (Nat.le_refl _))
  have FV_6 := Lib.hid (FV_5.out.below B (Nat.le_refl _))
  clear B  HB5 FT_5 FV_5
  rw [show sg (circ 5 0 0 5 (-5) 0 1 1) * sg (det 5 0 0 5 (-5) 0) = 1 from by decide]
  go_wp2_with fail
  refine (disc_Locate3 _ 3 5 0 0 5 (-5) 0 4 4 ⟨by unfold IsI; omega, by unfold IsI; omega, by unfold IsI; omega, by unfold IsI; omega, by unfold IsI; omega, by unfold IsI; omega, by unfold IsI; omega, by unfold IsI; omega⟩ _ FT_6.out FV_6.out.t3).mono ?_
  rintro e w7 ⟨rfl, B⟩
  have HB7 := Lib.hid (HB6.out.trans (B.mono HB6.out.size))
  have FT_7 := Lib.hid (FT_6.out.below B (Nat.le_refl _))
  have FV_7 := Lib.hid (FV_6.out.below B (Nat.le_refl _))
  clear B  HB6 FT_6 FV_6
  rw [show sg (circ 5 0 0 5 (-5) 0 4 4) * sg (det 5 0 0 5 (-5) 0) = -1 from by decide]
  go_wp2_with fail
  go_ret
  exact ⟨rfl, HB7.out⟩

end Go.Proofs.YtoikcgmdlccdbaaDoor
