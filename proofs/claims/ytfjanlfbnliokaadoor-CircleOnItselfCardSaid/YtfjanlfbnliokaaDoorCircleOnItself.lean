/- CircleOnItself: for every input the law returns true, and each argument reads afterwards as it read before; the package variable that the row lists holds what it lists. -/
import Derived.Test.YtfjanlfbnliokaaDoorCards
import Derived.Test.YtfjanlfbnliokaaDoorTie
import Derived.Test.YtfjanlfbnliokaaDoorLaw7
import Derived.Test.YtfjanlfbnliokaaDoorOpenPt
import Derived.WalkKit
import Derived.ProofKit
import Derived.OpenShut
import Derived.Below
import Derived.Deep.DeepHandedRow
import Derived.Lib.LaidTab
namespace Go.Proofs.YtfjanlfbnliokaaDoor.circleOnItself
open Go.ChangeShapes Go.WideShapes Go.ChangeAt Go.RowKit Wd
set_option linter.unusedVariables false
set_option linter.unusedSimpArgs false

theorem own : ownKnob Tryd.prog.godebug = none := by kernel_rfl
theorem laidOut : laidOutB Tryd.prog = true := by kernel_rfl

set_option maxHeartbeats 4000000 in
theorem walk {w : World} (a0_0 a0_1 a0_2 a0_3 a0_4 a0_5 a0_6 a0_7 : Int) (w0_0 : (Lit.int .i64 a0_0).wf = true) (w0_1 : (Lit.int .i64 a0_1).wf = true) (w0_2 : (Lit.int .i64 a0_2).wf = true) (w0_3 : (Lit.int .i64 a0_3).wf = true) (w0_4 : (Lit.int .i64 a0_4).wf = true) (w0_5 : (Lit.int .i64 a0_5).wf = true) (w0_6 : (Lit.int .i64 a0_6).wf = true) (w0_7 : (Lit.int .i64 a0_7).wf = true) (hT : TabM w) :
    Calls Tryd.prog 14 #[.agg #[.int .i64 a0_0, .int .i64 a0_1, .int .i64 a0_2, .int .i64 a0_3, .int .i64 a0_4, .int .i64 a0_5, .int .i64 a0_6, .int .i64 a0_7]] w fun e w' => e = .returned (.bool true) ∧ Below w.heap.size w w' := by
  have HB0 := Lib.hid (Below.refl w.heap.size w)
  have i0_0 := isI_of_wf w0_0
  have i0_1 := isI_of_wf w0_1
  have i0_2 := isI_of_wf w0_2
  have i0_3 := isI_of_wf w0_3
  have i0_4 := isI_of_wf w0_4
  have i0_5 := isI_of_wf w0_5
  have i0_6 := isI_of_wf w0_6
  have i0_7 := isI_of_wf w0_7
  have FT := Lib.hid hT; clear hT
  by_cases hd : det a0_0 a0_1 a0_2 a0_3 a0_4 a0_5 = 0
  · have hz := Lib.hid (show sg (det a0_0 a0_1 a0_2 a0_3 a0_4 a0_5) = 0 by rw [hd]; rfl); have hs := Lib.hid (show sg (circ a0_0 a0_1 a0_2 a0_3 a0_4 a0_5 a0_6 a0_7) * sg (det a0_0 a0_1 a0_2 a0_3 a0_4 a0_5) = 0 by rw [hd]; exact Int.mul_zero _); clear hd
    have q3 := (show P3 a0_0 a0_1 a0_2 a0_3 a0_4 a0_5 from ⟨i0_0, i0_1, i0_2, i0_3, i0_4, i0_5⟩)
    go_enter Tryd.func14, Tryd.ntmps14
    go_wp2_with fail
    have B : Below w.heap.size w (w.alloc (.cells #[.int .i64 a0_0, .int .i64 a0_1, .int .i64 a0_2, .int .i64 a0_3, .int .i64 a0_4, .int .i64 a0_5, .int .i64 a0_6, .int .i64 a0_7] 48)) := (HB0.out.alloc HB0.out.size _)
    have C : Below w.heap.size w (w.alloc (.cells #[.int .i64 a0_0, .int .i64 a0_1, .int .i64 a0_2, .int .i64 a0_3, .int .i64 a0_4, .int .i64 a0_5, .int .i64 a0_6, .int .i64 a0_7] 48)) := ((Below.refl w.heap.size w).alloc (Nat.le_refl _) _)
    have X0 : Bx (w.alloc (.cells #[.int .i64 a0_0, .int .i64 a0_1, .int .i64 a0_2, .int .i64 a0_3, .int .i64 a0_4, .int .i64 a0_5, .int .i64 a0_6, .int .i64 a0_7] 48)) (w.heap.size) #[.int .i64 a0_0, .int .i64 a0_1, .int .i64 a0_2, .int .i64 a0_3, .int .i64 a0_4, .int .i64 a0_5, .int .i64 a0_6, .int .i64 a0_7] 48 := by simpa using (Bx.new w #[.int .i64 a0_0, .int .i64 a0_1, .int .i64 a0_2, .int .i64 a0_3, .int .i64 a0_4, .int .i64 a0_5, .int .i64 a0_6, .int .i64 a0_7] 48)
    have FT_1 := Lib.hid (FT.out.below C (Nat.le_refl _))
    have HB1 := Lib.hid B
    have FA_1 := Lib.hid X0
    clear B C X0 HB0 FT
    generalize (w.alloc (.cells #[.int .i64 a0_0, .int .i64 a0_1, .int .i64 a0_2, .int .i64 a0_3, .int .i64 a0_4, .int .i64 a0_5, .int .i64 a0_6, .int .i64 a0_7] 48)) = w1 at *
    skip
    refine (ref6_Sign a0_0 a0_1 a0_2 a0_3 a0_4 a0_5 q3 _).mono ?_
    rintro e w2 ⟨rfl, B⟩
    have HB2 := Lib.hid (HB1.out.trans (B.mono HB1.out.size))
    have FT_2 := Lib.hid (FT_1.out.below B (Nat.le_refl _))
    have FA_2 := Lib.hid (FA_1.out.below B (Nat.le_refl _))
    clear B  HB1 FT_1 FA_1
    rw [hz.out]
    have vA0 := FA_2.out.cell 0 (v := .int .i64 a0_0) rfl
    have vA1 := FA_2.out.cell 1 (v := .int .i64 a0_1) rfl
    have vA2 := FA_2.out.cell 2 (v := .int .i64 a0_2) rfl
    have vA3 := FA_2.out.cell 3 (v := .int .i64 a0_3) rfl
    have vA4 := FA_2.out.cell 4 (v := .int .i64 a0_4) rfl
    have vA5 := FA_2.out.cell 5 (v := .int .i64 a0_5) rfl
    have vA6 := FA_2.out.cell 6 (v := .int .i64 a0_6) rfl
    have vA7 := FA_2.out.cell 7 (v := .int .i64 a0_7) rfl
    go_wp2_with fail
    refine (alive7 _ FT_2.out).mono ?_
    rintro e w3 ⟨rfl, B⟩
    clear vA0 vA1 vA2 vA3 vA4 vA5 vA6 vA7
    have HB3 := Lib.hid (HB2.out.trans (B.mono HB2.out.size))
    have FT_3 := Lib.hid (FT_2.out.below B (Nat.le_refl _))
    have FA_3 := Lib.hid (FA_2.out.below B (Nat.le_refl _))
    clear B  HB2 FT_2 FA_2
    have vA0 := FA_3.out.cell 0 (v := .int .i64 a0_0) rfl
    have vA1 := FA_3.out.cell 1 (v := .int .i64 a0_1) rfl
    have vA2 := FA_3.out.cell 2 (v := .int .i64 a0_2) rfl
    have vA3 := FA_3.out.cell 3 (v := .int .i64 a0_3) rfl
    have vA4 := FA_3.out.cell 4 (v := .int .i64 a0_4) rfl
    have vA5 := FA_3.out.cell 5 (v := .int .i64 a0_5) rfl
    have vA6 := FA_3.out.cell 6 (v := .int .i64 a0_6) rfl
    have vA7 := FA_3.out.cell 7 (v := .int .i64 a0_7) rfl
    go_wp2_with fail
    refine (circle_Side a0_0 a0_1 a0_2 a0_3 a0_4 a0_5 a0_6 a0_7 (show P4 a0_0 a0_1 a0_2 a0_3 a0_4 a0_5 a0_6 a0_7 from ⟨i0_0, i0_1, i0_2, i0_3, i0_4, i0_5, i0_6, i0_7⟩) _ FT_3.out).mono ?_
    rintro e w4 ⟨rfl, B⟩
    clear vA0 vA1 vA2 vA3 vA4 vA5 vA6 vA7
    have HB4 := Lib.hid (HB3.out.trans (B.mono HB3.out.size))
    have FT_4 := Lib.hid (FT_3.out.below B (Nat.le_refl _))
    have FA_4 := Lib.hid (FA_3.out.below B (Nat.le_refl _))
    clear B  HB3 FT_3 FA_3
    rw [hs.out]
    have vA0 := FA_4.out.cell 0 (v := .int .i64 a0_0) rfl
    have vA1 := FA_4.out.cell 1 (v := .int .i64 a0_1) rfl
    have vA2 := FA_4.out.cell 2 (v := .int .i64 a0_2) rfl
    have vA3 := FA_4.out.cell 3 (v := .int .i64 a0_3) rfl
    have vA4 := FA_4.out.cell 4 (v := .int .i64 a0_4) rfl
    have vA5 := FA_4.out.cell 5 (v := .int .i64 a0_5) rfl
    have vA6 := FA_4.out.cell 6 (v := .int .i64 a0_6) rfl
    have vA7 := FA_4.out.cell 7 (v := .int .i64 a0_7) rfl
    go_wp2_with fail
    go_ret
    exact ⟨rfl, HB4.out⟩
  · have hz : (sg (det a0_0 a0_1 a0_2 a0_3 a0_4 a0_5) == 0) = false := by rw [sg_zeroB']; simpa using hd
    have hs0 := Lib.hid (show sg (circ a0_0 a0_1 a0_2 a0_3 a0_4 a0_5 a0_0 a0_1) * sg (det a0_0 a0_1 a0_2 a0_3 a0_4 a0_5) = 0 from side_on0 _ _ _ _ _ _)
    have hs1 := Lib.hid (show sg (circ a0_0 a0_1 a0_2 a0_3 a0_4 a0_5 a0_2 a0_3) * sg (det a0_0 a0_1 a0_2 a0_3 a0_4 a0_5) = 0 from side_on1 _ _ _ _ _ _)
    have hs2 := Lib.hid (show sg (circ a0_0 a0_1 a0_2 a0_3 a0_4 a0_5 a0_4 a0_5) * sg (det a0_0 a0_1 a0_2 a0_3 a0_4 a0_5) = 0 from side_on2 _ _ _ _ _ _)
    clear hd
    have q3 := (show P3 a0_0 a0_1 a0_2 a0_3 a0_4 a0_5 from ⟨i0_0, i0_1, i0_2, i0_3, i0_4, i0_5⟩)
    go_enter Tryd.func14, Tryd.ntmps14
    go_wp2_with fail
    have B : Below w.heap.size w (w.alloc (.cells #[.int .i64 a0_0, .int .i64 a0_1, .int .i64 a0_2, .int .i64 a0_3, .int .i64 a0_4, .int .i64 a0_5, .int .i64 a0_6, .int .i64 a0_7] 48)) := (HB0.out.alloc HB0.out.size _)
    have C : Below w.heap.size w (w.alloc (.cells #[.int .i64 a0_0, .int .i64 a0_1, .int .i64 a0_2, .int .i64 a0_3, .int .i64 a0_4, .int .i64 a0_5, .int .i64 a0_6, .int .i64 a0_7] 48)) := ((Below.refl w.heap.size w).alloc (Nat.le_refl _) _)
    have X0 : Bx (w.alloc (.cells #[.int .i64 a0_0, .int .i64 a0_1, .int .i64 a0_2, .int .i64 a0_3, .int .i64 a0_4, .int .i64 a0_5, .int .i64 a0_6, .int .i64 a0_7] 48)) (w.heap.size) #[.int .i64 a0_0, .int .i64 a0_1, .int .i64 a0_2, .int .i64 a0_3, .int .i64 a0_4, .int .i64 a0_5, .int .i64 a0_6, .int .i64 a0_7] 48 := by simpa using (Bx.new w #[.int .i64 a0_0, .int .i64 a0_1, .int .i64 a0_2, .int .i64 a0_3, .int .i64 a0_4, .int .i64 a0_5, .int .i64 a0_6, .int .i64 a0_7] 48)
    have FT_1 := Lib.hid (FT.out.below C (Nat.le_refl _))
    have HB1 := Lib.hid B
    have FA_1 := Lib.hid X0
    clear B C X0 HB0 FT
    generalize (w.alloc (.cells #[.int .i64 a0_0, .int .i64 a0_1, .int .i64 a0_2, .int .i64 a0_3, .int .i64 a0_4, .int .i64 a0_5, .int .i64 a0_6, .int .i64 a0_7] 48)) = w1 at *
    skip
    refine (ref6_Sign a0_0 a0_1 a0_2 a0_3 a0_4 a0_5 q3 _).mono ?_
    rintro e w2 ⟨rfl, B⟩
    have HB2 := Lib.hid (HB1.out.trans (B.mono HB1.out.size))
    have FT_2 := Lib.hid (FT_1.out.below B (Nat.le_refl _))
    have FA_2 := Lib.hid (FA_1.out.below B (Nat.le_refl _))
    clear B  HB1 FT_1 FA_1
    go_wp2_with fail
    refine wp_loop_rounds 4 ?_
    rw [rounds_succ]
    go_wp2_with fail
    have RB2 := Lib.hid (below_drew0 w2)
    have QS2 := Lib.hid (show w2.cell? ⟨w.heap.size, 0, none⟩ = some (.int .i64 a0_0) ∧ w2.cell? ⟨w.heap.size, 1, none⟩ = some (.int .i64 a0_1) ∧ w2.cell? ⟨w.heap.size, 2, none⟩ = some (.int .i64 a0_2) ∧ w2.cell? ⟨w.heap.size, 3, none⟩ = some (.int .i64 a0_3) ∧ w2.cell? ⟨w.heap.size, 4, none⟩ = some (.int .i64 a0_4) ∧ w2.cell? ⟨w.heap.size, 5, none⟩ = some (.int .i64 a0_5) ∧ w2.cell? ⟨w.heap.size, 6, none⟩ = some (.int .i64 a0_6) ∧ w2.cell? ⟨w.heap.size, 7, none⟩ = some (.int .i64 a0_7) from ⟨FA_2.out.cell 0 (v := .int .i64 a0_0) rfl, FA_2.out.cell 1 (v := .int .i64 a0_1) rfl, FA_2.out.cell 2 (v := .int .i64 a0_2) rfl, FA_2.out.cell 3 (v := .int .i64 a0_3) rfl, FA_2.out.cell 4 (v := .int .i64 a0_4) rfl, FA_2.out.cell 5 (v := .int .i64 a0_5) rfl, FA_2.out.cell 6 (v := .int .i64 a0_6) rfl, FA_2.out.cell 7 (v := .int .i64 a0_7) rfl⟩)
    have QF2 := Lib.hid (show ∀ w', Below w2.heap.size w2 w' → w'.cell? ⟨w.heap.size, 0, none⟩ = some (.int .i64 a0_0) ∧ w'.cell? ⟨w.heap.size, 1, none⟩ = some (.int .i64 a0_1) ∧ w'.cell? ⟨w.heap.size, 2, none⟩ = some (.int .i64 a0_2) ∧ w'.cell? ⟨w.heap.size, 3, none⟩ = some (.int .i64 a0_3) ∧ w'.cell? ⟨w.heap.size, 4, none⟩ = some (.int .i64 a0_4) ∧ w'.cell? ⟨w.heap.size, 5, none⟩ = some (.int .i64 a0_5) ∧ w'.cell? ⟨w.heap.size, 6, none⟩ = some (.int .i64 a0_6) ∧ w'.cell? ⟨w.heap.size, 7, none⟩ = some (.int .i64 a0_7) from fun w' hb => ⟨(FA_2.out.below hb (Nat.le_refl _)).cell 0 (v := .int .i64 a0_0) rfl, (FA_2.out.below hb (Nat.le_refl _)).cell 1 (v := .int .i64 a0_1) rfl, (FA_2.out.below hb (Nat.le_refl _)).cell 2 (v := .int .i64 a0_2) rfl, (FA_2.out.below hb (Nat.le_refl _)).cell 3 (v := .int .i64 a0_3) rfl, (FA_2.out.below hb (Nat.le_refl _)).cell 4 (v := .int .i64 a0_4) rfl, (FA_2.out.below hb (Nat.le_refl _)).cell 5 (v := .int .i64 a0_5) rfl, (FA_2.out.below hb (Nat.le_refl _)).cell 6 (v := .int .i64 a0_6) rfl, (FA_2.out.below hb (Nat.le_refl _)).cell 7 (v := .int .i64 a0_7) rfl⟩)
    go_region_held3 (fun w' => w'.cell? ⟨w.heap.size, 0, none⟩ = some (.int .i64 a0_0) ∧ w'.cell? ⟨w.heap.size, 1, none⟩ = some (.int .i64 a0_1) ∧ w'.cell? ⟨w.heap.size, 2, none⟩ = some (.int .i64 a0_2) ∧ w'.cell? ⟨w.heap.size, 3, none⟩ = some (.int .i64 a0_3) ∧ w'.cell? ⟨w.heap.size, 4, none⟩ = some (.int .i64 a0_4) ∧ w'.cell? ⟨w.heap.size, 5, none⟩ = some (.int .i64 a0_5) ∧ w'.cell? ⟨w.heap.size, 6, none⟩ = some (.int .i64 a0_6) ∧ w'.cell? ⟨w.heap.size, 7, none⟩ = some (.int .i64 a0_7)) (first | with_reducible exact QF2.out _ RB3.out | with_reducible exact QS2.out | with_reducible exact QF2.out _ RB2.out) (first
          | (go_at_call 33; have := RB2; clear this; refine (circle_Side a0_0 a0_1 a0_2 a0_3 a0_4 a0_5 a0_0 a0_1 (show P4 a0_0 a0_1 a0_2 a0_3 a0_4 a0_5 a0_0 a0_1 from ⟨i0_0, i0_1, i0_2, i0_3, i0_4, i0_5, i0_0, i0_1⟩) _ (FT_2.out.below RB2.out (Nat.le_refl _))).mono ?_; rintro e w3 ⟨rfl, B⟩; have RB3 := Lib.hid (RB2.out.trans (B.mono RB2.out.size)); clear B ; rw [hs0.out]))
    have FT_3 := Lib.hid (FT_2.out.below RB3.out (Nat.le_refl _))
    have FA_3 := Lib.hid (FA_2.out.below RB3.out (Nat.le_refl _))
    have HB3 := Lib.hid (HB2.out.trans (RB3.out.mono HB2.out.size))
    clear HB2 FT_2 FA_2
    go_wp2_with fail
    rw [rounds_succ]
    go_wp2_with fail
    have RB3 := Lib.hid (below_drew0 w3)
    have QS3 := Lib.hid (show w3.cell? ⟨w.heap.size, 0, none⟩ = some (.int .i64 a0_0) ∧ w3.cell? ⟨w.heap.size, 1, none⟩ = some (.int .i64 a0_1) ∧ w3.cell? ⟨w.heap.size, 2, none⟩ = some (.int .i64 a0_2) ∧ w3.cell? ⟨w.heap.size, 3, none⟩ = some (.int .i64 a0_3) ∧ w3.cell? ⟨w.heap.size, 4, none⟩ = some (.int .i64 a0_4) ∧ w3.cell? ⟨w.heap.size, 5, none⟩ = some (.int .i64 a0_5) ∧ w3.cell? ⟨w.heap.size, 6, none⟩ = some (.int .i64 a0_6) ∧ w3.cell? ⟨w.heap.size, 7, none⟩ = some (.int .i64 a0_7) from ⟨FA_3.out.cell 0 (v := .int .i64 a0_0) rfl, FA_3.out.cell 1 (v := .int .i64 a0_1) rfl, FA_3.out.cell 2 (v := .int .i64 a0_2) rfl, FA_3.out.cell 3 (v := .int .i64 a0_3) rfl, FA_3.out.cell 4 (v := .int .i64 a0_4) rfl, FA_3.out.cell 5 (v := .int .i64 a0_5) rfl, FA_3.out.cell 6 (v := .int .i64 a0_6) rfl, FA_3.out.cell 7 (v := .int .i64 a0_7) rfl⟩)
    have QF3 := Lib.hid (show ∀ w', Below w3.heap.size w3 w' → w'.cell? ⟨w.heap.size, 0, none⟩ = some (.int .i64 a0_0) ∧ w'.cell? ⟨w.heap.size, 1, none⟩ = some (.int .i64 a0_1) ∧ w'.cell? ⟨w.heap.size, 2, none⟩ = some (.int .i64 a0_2) ∧ w'.cell? ⟨w.heap.size, 3, none⟩ = some (.int .i64 a0_3) ∧ w'.cell? ⟨w.heap.size, 4, none⟩ = some (.int .i64 a0_4) ∧ w'.cell? ⟨w.heap.size, 5, none⟩ = some (.int .i64 a0_5) ∧ w'.cell? ⟨w.heap.size, 6, none⟩ = some (.int .i64 a0_6) ∧ w'.cell? ⟨w.heap.size, 7, none⟩ = some (.int .i64 a0_7) from fun w' hb => ⟨(FA_3.out.below hb (Nat.le_refl _)).cell 0 (v := .int .i64 a0_0) rfl, (FA_3.out.below hb (Nat.le_refl _)).cell 1 (v := .int .i64 a0_1) rfl, (FA_3.out.below hb (Nat.le_refl _)).cell 2 (v := .int .i64 a0_2) rfl, (FA_3.out.below hb (Nat.le_refl _)).cell 3 (v := .int .i64 a0_3) rfl, (FA_3.out.below hb (Nat.le_refl _)).cell 4 (v := .int .i64 a0_4) rfl, (FA_3.out.below hb (Nat.le_refl _)).cell 5 (v := .int .i64 a0_5) rfl, (FA_3.out.below hb (Nat.le_refl _)).cell 6 (v := .int .i64 a0_6) rfl, (FA_3.out.below hb (Nat.le_refl _)).cell 7 (v := .int .i64 a0_7) rfl⟩)
    go_region_held3 (fun w' => w'.cell? ⟨w.heap.size, 0, none⟩ = some (.int .i64 a0_0) ∧ w'.cell? ⟨w.heap.size, 1, none⟩ = some (.int .i64 a0_1) ∧ w'.cell? ⟨w.heap.size, 2, none⟩ = some (.int .i64 a0_2) ∧ w'.cell? ⟨w.heap.size, 3, none⟩ = some (.int .i64 a0_3) ∧ w'.cell? ⟨w.heap.size, 4, none⟩ = some (.int .i64 a0_4) ∧ w'.cell? ⟨w.heap.size, 5, none⟩ = some (.int .i64 a0_5) ∧ w'.cell? ⟨w.heap.size, 6, none⟩ = some (.int .i64 a0_6) ∧ w'.cell? ⟨w.heap.size, 7, none⟩ = some (.int .i64 a0_7)) (first | with_reducible exact QF3.out _ RB4.out | with_reducible exact QS3.out | with_reducible exact QF3.out _ RB3.out) (first
          | (go_at_call 33; have := RB3; clear this; refine (circle_Side a0_0 a0_1 a0_2 a0_3 a0_4 a0_5 a0_2 a0_3 (show P4 a0_0 a0_1 a0_2 a0_3 a0_4 a0_5 a0_2 a0_3 from ⟨i0_0, i0_1, i0_2, i0_3, i0_4, i0_5, i0_2, i0_3⟩) _ (FT_3.out.below RB3.out (Nat.le_refl _))).mono ?_; rintro e w4 ⟨rfl, B⟩; have RB4 := Lib.hid (RB3.out.trans (B.mono RB3.out.size)); clear B ; rw [hs1.out]))
    have FT_4 := Lib.hid (FT_3.out.below RB4.out (Nat.le_refl _))
    have FA_4 := Lib.hid (FA_3.out.below RB4.out (Nat.le_refl _))
    have HB4 := Lib.hid (HB3.out.trans (RB4.out.mono HB3.out.size))
    clear HB3 FT_3 FA_3
    go_wp2_with fail
    rw [rounds_succ]
    go_wp2_with fail
    have RB4 := Lib.hid (below_drew0 w4)
    have QS4 := Lib.hid (show w4.cell? ⟨w.heap.size, 0, none⟩ = some (.int .i64 a0_0) ∧ w4.cell? ⟨w.heap.size, 1, none⟩ = some (.int .i64 a0_1) ∧ w4.cell? ⟨w.heap.size, 2, none⟩ = some (.int .i64 a0_2) ∧ w4.cell? ⟨w.heap.size, 3, none⟩ = some (.int .i64 a0_3) ∧ w4.cell? ⟨w.heap.size, 4, none⟩ = some (.int .i64 a0_4) ∧ w4.cell? ⟨w.heap.size, 5, none⟩ = some (.int .i64 a0_5) ∧ w4.cell? ⟨w.heap.size, 6, none⟩ = some (.int .i64 a0_6) ∧ w4.cell? ⟨w.heap.size, 7, none⟩ = some (.int .i64 a0_7) from ⟨FA_4.out.cell 0 (v := .int .i64 a0_0) rfl, FA_4.out.cell 1 (v := .int .i64 a0_1) rfl, FA_4.out.cell 2 (v := .int .i64 a0_2) rfl, FA_4.out.cell 3 (v := .int .i64 a0_3) rfl, FA_4.out.cell 4 (v := .int .i64 a0_4) rfl, FA_4.out.cell 5 (v := .int .i64 a0_5) rfl, FA_4.out.cell 6 (v := .int .i64 a0_6) rfl, FA_4.out.cell 7 (v := .int .i64 a0_7) rfl⟩)
    have QF4 := Lib.hid (show ∀ w', Below w4.heap.size w4 w' → w'.cell? ⟨w.heap.size, 0, none⟩ = some (.int .i64 a0_0) ∧ w'.cell? ⟨w.heap.size, 1, none⟩ = some (.int .i64 a0_1) ∧ w'.cell? ⟨w.heap.size, 2, none⟩ = some (.int .i64 a0_2) ∧ w'.cell? ⟨w.heap.size, 3, none⟩ = some (.int .i64 a0_3) ∧ w'.cell? ⟨w.heap.size, 4, none⟩ = some (.int .i64 a0_4) ∧ w'.cell? ⟨w.heap.size, 5, none⟩ = some (.int .i64 a0_5) ∧ w'.cell? ⟨w.heap.size, 6, none⟩ = some (.int .i64 a0_6) ∧ w'.cell? ⟨w.heap.size, 7, none⟩ = some (.int .i64 a0_7) from fun w' hb => ⟨(FA_4.out.below hb (Nat.le_refl _)).cell 0 (v := .int .i64 a0_0) rfl, (FA_4.out.below hb (Nat.le_refl _)).cell 1 (v := .int .i64 a0_1) rfl, (FA_4.out.below hb (Nat.le_refl _)).cell 2 (v := .int .i64 a0_2) rfl, (FA_4.out.below hb (Nat.le_refl _)).cell 3 (v := .int .i64 a0_3) rfl, (FA_4.out.below hb (Nat.le_refl _)).cell 4 (v := .int .i64 a0_4) rfl, (FA_4.out.below hb (Nat.le_refl _)).cell 5 (v := .int .i64 a0_5) rfl, (FA_4.out.below hb (Nat.le_refl _)).cell 6 (v := .int .i64 a0_6) rfl, (FA_4.out.below hb (Nat.le_refl _)).cell 7 (v := .int .i64 a0_7) rfl⟩)
    go_region_held3 (fun w' => w'.cell? ⟨w.heap.size, 0, none⟩ = some (.int .i64 a0_0) ∧ w'.cell? ⟨w.heap.size, 1, none⟩ = some (.int .i64 a0_1) ∧ w'.cell? ⟨w.heap.size, 2, none⟩ = some (.int .i64 a0_2) ∧ w'.cell? ⟨w.heap.size, 3, none⟩ = some (.int .i64 a0_3) ∧ w'.cell? ⟨w.heap.size, 4, none⟩ = some (.int .i64 a0_4) ∧ w'.cell? ⟨w.heap.size, 5, none⟩ = some (.int .i64 a0_5) ∧ w'.cell? ⟨w.heap.size, 6, none⟩ = some (.int .i64 a0_6) ∧ w'.cell? ⟨w.heap.size, 7, none⟩ = some (.int .i64 a0_7)) (first | with_reducible exact QF4.out _ RB5.out | with_reducible exact QS4.out | with_reducible exact QF4.out _ RB4.out) (first
          | (go_at_call 33; have := RB4; clear this; refine (circle_Side a0_0 a0_1 a0_2 a0_3 a0_4 a0_5 a0_4 a0_5 (show P4 a0_0 a0_1 a0_2 a0_3 a0_4 a0_5 a0_4 a0_5 from ⟨i0_0, i0_1, i0_2, i0_3, i0_4, i0_5, i0_4, i0_5⟩) _ (FT_4.out.below RB4.out (Nat.le_refl _))).mono ?_; rintro e w5 ⟨rfl, B⟩; have RB5 := Lib.hid (RB4.out.trans (B.mono RB4.out.size)); clear B ; rw [hs2.out]))
    have FT_5 := Lib.hid (FT_4.out.below RB5.out (Nat.le_refl _))
    have FA_5 := Lib.hid (FA_4.out.below RB5.out (Nat.le_refl _))
    have HB5 := Lib.hid (HB4.out.trans (RB5.out.mono HB4.out.size))
    clear HB4 FT_4 FA_4
    go_wp2_with fail
    rw [rounds_succ]
    go_wp2_with fail
    refine (alive7 _ FT_5.out).mono ?_
    rintro e w6 ⟨rfl, B⟩
    have HB6 := Lib.hid (HB5.out.trans (B.mono HB5.out.size))
    have FT_6 := Lib.hid (FT_5.out.below B (Nat.le_refl _))
    have FA_6 := Lib.hid (FA_5.out.below B (Nat.le_refl _))
    clear B  HB5 FT_5 FA_5
    go_wp2_with fail
    go_ret
    exact ⟨rfl, HB6.out⟩

theorem gTab0 : Tryd.prog.globalNamed "geofence/mask.words" = some 1 := by kernel_rfl
theorem gTabType0 : (Tryd.prog.globals[1]?).map (·.type) = some 69 := by kernel_rfl
theorem cellsT0 : Tryd.prog.cellsOf 69 = 2 := by kernel_rfl
theorem cellsE0 : Tryd.prog.cellsOf 36 = 1 := by kernel_rfl
theorem tableIs0 {W : World} (h : laidMetH Tryd.prog Rows.circleOnItselfRow.laid W) : Lib.TabIs Tryd.prog W "geofence/mask.words" .u64 [9223372036854775808, 18446744073709551615] :=
  Lib.tabIs_of_head (rest := _) gTab0 gTabType0 Tryd.underlying69 Tryd.underlying36 cellsE0 cellsT0 h
theorem table0 {W : World} (h : laidMetH Tryd.prog Rows.circleOnItselfRow.laid W) : TabM W := ⟨(tableIs0 h).cell gTab0 0 (by decide), (tableIs0 h).cell gTab0 1 (by decide)⟩

theorem contract (H : Type) (enc : TypeId × Value → H) (W : World) (base : Nat) (args : Array Value) (ds gs : List (DataW H)) (before : List MemPlace)
    (hval : ∀ (j : Nat) t v, Tryd.f14.params[j]? = some t → args[j]? = some v → Value.okWide Tryd.prog W .any base t v)
    (hW : DataW.Whole enc Tryd.prog Tryd.f14.params.toList Rows.circleOnItselfSpec.vars false W args.toList ds gs before) (hL : laidMetH Tryd.prog Rows.circleOnItselfRow.laid W) :
    Calls Tryd.prog 14 args W fun e W' => ∃ v, e = .returned v ∧ Rows.circleOnItselfSpec.post enc Tryd.prog Tryd.f14 false true false false W args v W' := by
  have hW' := hW
  obtain ⟨p, q, hA0, hV, rfl, hfz, hnd⟩ := hW
  have hA : DataW.TrodAll enc Tryd.prog W 0 (fun _ => true) true Tryd.f14.params.toList args.toList ds p := hA0
  rw [Tryd.params14] at hA hval
  obtain ⟨v0, vs0, d0, ds0, p0, q0, hargs, rfl, rfl, h0, r0⟩ := trodAll_cons hA
  obtain ⟨rfl, rfl, rfl⟩ := trodAll_nil r0
  obtain rfl : args = #[v0] := by cases args; simp_all
  obtain ⟨rfl, rfl⟩ := trodVars_none hV
  have k0 := h0
  have lt0 : ∀ x ∈ p0, x.block < W.heap.size := by obtain ⟨m, hm⟩ := k0; exact DataW.trod_lt m _ _ _ hm
  obtain ⟨a0_0, a0_1, a0_2, a0_3, a0_4, a0_5, a0_6, a0_7, rfl, w0_0, w0_1, w0_2, w0_3, w0_4, w0_5, w0_6, w0_7⟩ := Op.open_pts4 Tryd.underlying48 Tryd.underlying23 rfl rfl rfl rfl Tryd.underlying2 (by kernel_rfl) (by kernel_rfl) (by kernel_rfl) h0
  clear hA0
  refine (walk a0_0 a0_1 a0_2 a0_3 a0_4 a0_5 a0_6 a0_7 w0_0 w0_1 w0_2 w0_3 w0_4 w0_5 w0_6 w0_7 (table0 hL)).mono fun e W' ⟨he, bel⟩ => ?_
  subst he
  exact ⟨_, rfl, _, _, _, [], _, [], hW', trodAll_mk1 (shut_bool Tryd.underlying4 _), (trodAll_cons_mk (Below.trod laidOut (by kernel_rfl) (of_decide_eq_true (by kernel_rfl)) k0 bel lt0) trodAll_mk0), rfl, bel.frame _, fun h => by cases h⟩

noncomputable def laidHeap (os : Os) : Array Obj :=
  (World.holding Tryd.prog os ⟨#[], #[], []⟩).heap.modify 1 (fun
      | .cells _ t frozen => .cells #[.int .u64 9223372036854775808, .int .u64 18446744073709551615] t frozen
      | o => o)
noncomputable def laidWorld (os : Os) : World :=
  { World.holding Tryd.prog os ⟨#[], #[], []⟩ with heap := laidHeap os }
theorem laid_met (os : Os) : laidMet Tryd.prog Rows.circleOnItselfRow.laid ((laidWorld os).forCall (fun _ _ => 0) ⟨#[], #[.agg #[.int .i64 0, .int .i64 0, .int .i64 0, .int .i64 0, .int .i64 0, .int .i64 0, .int .i64 0, .int .i64 0]], []⟩).memory :=
  laidMet_of_run' 8 (by kernel_rfl) (by kernel_rfl)
theorem reads (os : Os) {H : Type} (enc : TypeId × Value → H) : ∃ places, DataW.whole enc Tryd.prog ((laidWorld os).forCall (fun _ _ => 0) ⟨#[], #[.agg #[.int .i64 0, .int .i64 0, .int .i64 0, .int .i64 0, .int .i64 0, .int .i64 0, .int .i64 0, .int .i64 0]], []⟩).memory Tryd.f14.params.toList Rows.circleOnItselfSpec.vars false (#[.agg #[.int .i64 0, .int .i64 0, .int .i64 0, .int .i64 0, .int .i64 0, .int .i64 0, .int .i64 0, .int .i64 0]] : Array Value).toList 8 = some ([.agg [.agg [.lit (.int .i64 0), .lit (.int .i64 0)], .agg [.lit (.int .i64 0), .lit (.int .i64 0)], .agg [.lit (.int .i64 0), .lit (.int .i64 0)], .agg [.lit (.int .i64 0), .lit (.int .i64 0)]]], [], places) :=
  ⟨[], by kernel_rfl⟩

set_option maxRecDepth 100000 in
theorem lifted (os : Os) (started : os.Started) (H : Type) (enc : TypeId × Value → H) (F : Stop.Interp) :
    ReturnsInHanded {} Tryd.checked os 14 .any ((OpenSpec.ofChange Rows.circleOnItselfSpec).preRow enc Tryd.prog Tryd.f14 Rows.circleOnItselfRow.domain false Rows.circleOnItselfRow.laid) (((OpenSpec.ofChange Rows.circleOnItselfSpec).at F).post enc Tryd.prog Tryd.f14 false true false false) := by
  obtain ⟨places, hx⟩ := reads os enc
  refine returnsInHanded_of_row (C := Tryd.checked) (s := OpenSpec.ofChange Rows.circleOnItselfSpec) own started (by kernel_rfl) Tryd.func14
    (witness_row_at (enc := enc) (C := Tryd.checked) false (laidWorld os) #[.agg #[.int .i64 0, .int .i64 0, .int .i64 0, .int .i64 0, .int .i64 0, .int .i64 0, .int .i64 0, .int .i64 0]] rfl (by kernel_rfl) (by kernel_rfl) (by kernel_rfl)
      (OpenSpec.preRow_of_cond 8 hx (by kernel_rfl) (fun k hk => by cases hk) (by kernel_rfl) (laid_met os))) ?_
  intro W base args ds gs before hval hW _ _ _ hL _ _
  exact contract H enc W base args ds gs before hval hW hL

theorem said : Rows.CircleOnItselfSaid :=
  OpenClaim.holds_of_cond 14 Tryd.f14 rfl rfl rfl rfl rfl rfl rfl ⟨rfl, rfl, rfl, rfl, rfl⟩ rfl rfl rfl rfl rfl (by kernel_rfl) Tryd.func14 (by kernel_rfl)
    (of_decide_eq_true (by kernel_rfl)) (by unfold Func.isWrapper; first | (rw [if_pos (by decide +kernel)]; kernel_rfl) | (rw [if_neg (by decide +kernel)]; exact ⟨rfl, rfl⟩))
    (fun os started H enc _ F => by rw [OpenClaim.pre_eq_preRow]; exact lifted os started H enc F)

theorem plain (f : FuncId) (fn : Func) (hf : Tryd.pinned.checked.prog.funcNamed "geofence/geofencelaw07.CircleOnItself" = some f) (hfn : Tryd.pinned.checked.prog.funcs[f]? = some fn) :
    false = Tryd.pinned.checked.prog.looks [] ∧ ∀ (j : Nat) t, fn.params[j]? = some t → Tryd.pinned.checked.prog.wantsStandIn t = false := by
  obtain rfl : f = 14 := Option.some.inj ((show Tryd.prog.funcNamed "geofence/geofencelaw07.CircleOnItself" = some 14 by kernel_rfl).symm.trans hf) |>.symm
  obtain rfl : fn = Tryd.f14 := (Option.some.inj (Tryd.func14.symm.trans hfn)).symm
  refine ⟨by kernel_rfl, fun j t ht => ?_⟩
  rw [Tryd.params14] at ht
  have hm := Array.mem_of_getElem? ht
  simp at hm
  obtain rfl := hm
  exact (show Tryd.prog.wantsStandIn 48 = false by kernel_rfl)

/-- THE CARD -/
theorem card : Rows.CircleOnItselfCardSaid :=
  Claim7.holds_tied_plain_at .later [] _ _ _ _ said (fun _ h => by cases h) (by kernel_rfl) (fun _ h => by cases h) circleOnItself_row_tie rfl ⟨rfl, rfl⟩ (by kernel_rfl) rfl plain (by kernel_rfl)
#print axioms card
end Go.Proofs.YtfjanlfbnliokaaDoor.circleOnItself
