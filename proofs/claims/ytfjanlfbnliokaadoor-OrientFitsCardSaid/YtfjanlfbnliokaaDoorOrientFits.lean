/- OrientFits: for every input the law returns true, and each argument reads afterwards as it read before; the package variable that the row lists holds what it lists. -/
import Derived.Test.YtfjanlfbnliokaaDoorCards
import Derived.Test.YtfjanlfbnliokaaDoorTie
import Derived.Test.YtfjanlfbnliokaaDoorLaw6b
import Derived.Test.YtfjanlfbnliokaaDoorOpenB
import Derived.Test.YtfjanlfbnliokaaDoorOpenPt
import Derived.WalkKit
import Derived.ProofKit
import Derived.OpenShut
import Derived.Below
import Derived.Deep.DeepHandedRow
import Derived.Lib.LaidTab
import Derived.Test.YtfjanlfbnliokaaDoorTab
namespace Go.Proofs.YtfjanlfbnliokaaDoor.orientFits
open Go.ChangeShapes Go.WideShapes Go.ChangeAt Go.RowKit Wd
set_option linter.unusedVariables false
set_option linter.unusedSimpArgs false

theorem own : ownKnob Tryd.prog.godebug = none := by kernel_rfl
theorem laidOut : laidOutB Tryd.prog = true := by kernel_rfl

set_option maxRecDepth 100000 in
set_option maxHeartbeats 4000000 in
theorem walk {w : World} (a0_0 a0_1 a0_2 a0_3 a0_4 a0_5 : Bool) (a1 b1 : Int) (w1 : (Lit.int .i64 a1).wf = true) (x1 : (Lit.int .i64 b1).wf = true) (a2 b2 : Int) (w2 : (Lit.int .i64 a2).wf = true) (x2 : (Lit.int .i64 b2).wf = true) (hT : TabM w) (hW : TabO w) :
    Calls Tryd.prog 8 #[.agg #[.bool a0_0, .bool a0_1, .bool a0_2, .bool a0_3, .bool a0_4, .bool a0_5], .agg #[.int .i64 a1, .int .i64 b1], .agg #[.int .i64 a2, .int .i64 b2]] w fun e w' => e = .returned (.bool true) ∧ Below w.heap.size w w' := by
  have HB0 := Lib.hid (Below.refl w.heap.size w)
  have ia1 := isI_of_wf w1
  have ib1 := isI_of_wf x1
  have ia2 := isI_of_wf w2
  have ib2 := isI_of_wf x2
  have FT := Lib.hid hT; clear hT
  have FW := Lib.hid hW; clear hW
  have OT := Lib.hid FT.out; have OW := Lib.hid FW.out
  have hix0 : ∀ (w : World), (Instr.index 45 (.agg #[.bool a0_0, .bool a0_1, .bool a0_2, .bool a0_3, .bool a0_4, .bool a0_5]) (.int .i64 0)).run Tryd.prog w = .ok (.bool a0_0) w := fun _ => by kernel_rfl
  have hix1 : ∀ (w : World), (Instr.index 45 (.agg #[.bool a0_0, .bool a0_1, .bool a0_2, .bool a0_3, .bool a0_4, .bool a0_5]) (.int .i64 1)).run Tryd.prog w = .ok (.bool a0_1) w := fun _ => by kernel_rfl
  have hix2 : ∀ (w : World), (Instr.index 45 (.agg #[.bool a0_0, .bool a0_1, .bool a0_2, .bool a0_3, .bool a0_4, .bool a0_5]) (.int .i64 2)).run Tryd.prog w = .ok (.bool a0_2) w := fun _ => by kernel_rfl
  have hix3 : ∀ (w : World), (Instr.index 45 (.agg #[.bool a0_0, .bool a0_1, .bool a0_2, .bool a0_3, .bool a0_4, .bool a0_5]) (.int .i64 3)).run Tryd.prog w = .ok (.bool a0_3) w := fun _ => by kernel_rfl
  have hix4 : ∀ (w : World), (Instr.index 45 (.agg #[.bool a0_0, .bool a0_1, .bool a0_2, .bool a0_3, .bool a0_4, .bool a0_5]) (.int .i64 4)).run Tryd.prog w = .ok (.bool a0_4) w := fun _ => by kernel_rfl
  have hix5 : ∀ (w : World), (Instr.index 45 (.agg #[.bool a0_0, .bool a0_1, .bool a0_2, .bool a0_3, .bool a0_4, .bool a0_5]) (.int .i64 5)).run Tryd.prog w = .ok (.bool a0_5) w := fun _ => by kernel_rfl
  go_enter Tryd.func8, Tryd.ntmps8
  go_wp2_with fail
  have B : Below w.heap.size w ((((w.alloc (.cells #[.bool a0_0, .bool a0_1, .bool a0_2, .bool a0_3, .bool a0_4, .bool a0_5] 45)).alloc (.cells #[.int .i64 a1, .int .i64 b1] 23)).alloc (.cells #[.int .i64 a2, .int .i64 b2] 23)).alloc (.cells #[.int .i64 0, .int .i64 0, .int .i64 0, .int .i64 0, .int .i64 0, .int .i64 0] 46)) := ((((HB0.out.alloc HB0.out.size _).alloc (HB0.out.alloc HB0.out.size _).size _).alloc ((HB0.out.alloc HB0.out.size _).alloc (HB0.out.alloc HB0.out.size _).size _).size _).alloc (((HB0.out.alloc HB0.out.size _).alloc (HB0.out.alloc HB0.out.size _).size _).alloc ((HB0.out.alloc HB0.out.size _).alloc (HB0.out.alloc HB0.out.size _).size _).size _).size _)
  have C : Below w.heap.size w ((((w.alloc (.cells #[.bool a0_0, .bool a0_1, .bool a0_2, .bool a0_3, .bool a0_4, .bool a0_5] 45)).alloc (.cells #[.int .i64 a1, .int .i64 b1] 23)).alloc (.cells #[.int .i64 a2, .int .i64 b2] 23)).alloc (.cells #[.int .i64 0, .int .i64 0, .int .i64 0, .int .i64 0, .int .i64 0, .int .i64 0] 46)) := (((((Below.refl w.heap.size w).alloc (Nat.le_refl _) _).alloc (by simp; try omega) _).alloc (by simp; try omega) _).alloc (by simp; try omega) _)
  have X0 : Bx ((((w.alloc (.cells #[.bool a0_0, .bool a0_1, .bool a0_2, .bool a0_3, .bool a0_4, .bool a0_5] 45)).alloc (.cells #[.int .i64 a1, .int .i64 b1] 23)).alloc (.cells #[.int .i64 a2, .int .i64 b2] 23)).alloc (.cells #[.int .i64 0, .int .i64 0, .int .i64 0, .int .i64 0, .int .i64 0, .int .i64 0] 46)) (w.heap.size) #[.bool a0_0, .bool a0_1, .bool a0_2, .bool a0_3, .bool a0_4, .bool a0_5] 45 := by simpa using ((((Bx.new w #[.bool a0_0, .bool a0_1, .bool a0_2, .bool a0_3, .bool a0_4, .bool a0_5] 45).alloc _).alloc _).alloc _)
  have X1 : Bx ((((w.alloc (.cells #[.bool a0_0, .bool a0_1, .bool a0_2, .bool a0_3, .bool a0_4, .bool a0_5] 45)).alloc (.cells #[.int .i64 a1, .int .i64 b1] 23)).alloc (.cells #[.int .i64 a2, .int .i64 b2] 23)).alloc (.cells #[.int .i64 0, .int .i64 0, .int .i64 0, .int .i64 0, .int .i64 0, .int .i64 0] 46)) (w.heap.size + 1) #[.int .i64 a1, .int .i64 b1] 23 := by simpa using (((Bx.new (w.alloc (.cells #[.bool a0_0, .bool a0_1, .bool a0_2, .bool a0_3, .bool a0_4, .bool a0_5] 45)) #[.int .i64 a1, .int .i64 b1] 23).alloc _).alloc _)
  have X2 : Bx ((((w.alloc (.cells #[.bool a0_0, .bool a0_1, .bool a0_2, .bool a0_3, .bool a0_4, .bool a0_5] 45)).alloc (.cells #[.int .i64 a1, .int .i64 b1] 23)).alloc (.cells #[.int .i64 a2, .int .i64 b2] 23)).alloc (.cells #[.int .i64 0, .int .i64 0, .int .i64 0, .int .i64 0, .int .i64 0, .int .i64 0] 46)) (w.heap.size + 1 + 1) #[.int .i64 a2, .int .i64 b2] 23 := by simpa using ((Bx.new ((w.alloc (.cells #[.bool a0_0, .bool a0_1, .bool a0_2, .bool a0_3, .bool a0_4, .bool a0_5] 45)).alloc (.cells #[.int .i64 a1, .int .i64 b1] 23)) #[.int .i64 a2, .int .i64 b2] 23).alloc _)
  have X3 : Bx ((((w.alloc (.cells #[.bool a0_0, .bool a0_1, .bool a0_2, .bool a0_3, .bool a0_4, .bool a0_5] 45)).alloc (.cells #[.int .i64 a1, .int .i64 b1] 23)).alloc (.cells #[.int .i64 a2, .int .i64 b2] 23)).alloc (.cells #[.int .i64 0, .int .i64 0, .int .i64 0, .int .i64 0, .int .i64 0, .int .i64 0] 46)) (w.heap.size + 1 + 1 + 1) #[.int .i64 0, .int .i64 0, .int .i64 0, .int .i64 0, .int .i64 0, .int .i64 0] 46 := by simpa using (Bx.new (((w.alloc (.cells #[.bool a0_0, .bool a0_1, .bool a0_2, .bool a0_3, .bool a0_4, .bool a0_5] 45)).alloc (.cells #[.int .i64 a1, .int .i64 b1] 23)).alloc (.cells #[.int .i64 a2, .int .i64 b2] 23)) #[.int .i64 0, .int .i64 0, .int .i64 0, .int .i64 0, .int .i64 0, .int .i64 0] 46)
  have FT_1 := Lib.hid (FT.out.below C (Nat.le_refl _))
  have FW_1 := Lib.hid (FW.out.below C (Nat.le_refl _))
  have HB1 := Lib.hid B
  have FA_1 := Lib.hid X0
  have FQ_1 := Lib.hid X1
  have FR_1 := Lib.hid X2
  have FL_1 := Lib.hid X3
  clear B C X0 X1 X2 X3 HB0 FT FW
  generalize ((((w.alloc (.cells #[.bool a0_0, .bool a0_1, .bool a0_2, .bool a0_3, .bool a0_4, .bool a0_5] 45)).alloc (.cells #[.int .i64 a1, .int .i64 b1] 23)).alloc (.cells #[.int .i64 a2, .int .i64 b2] 23)).alloc (.cells #[.int .i64 0, .int .i64 0, .int .i64 0, .int .i64 0, .int .i64 0, .int .i64 0] 46)) = w1 at *
  go_loopw [13] (fun i wr => ∃ k : Nat, k ≤ 6 ∧ i = .int .i64 k ∧ SixI wr (w.heap.size + 1 + 1 + 1) 46 ∧ Below (w.heap.size + 1 + 1 + 1) w1 wr) (fun i _ => 6 - (intOf i).toNat)
  case atStart => exact ⟨0, by omega, rfl, ⟨0, 0, 0, 0, 0, 0, by unfold IsI; omega, by unfold IsI; omega, by unfold IsI; omega, by unfold IsI; omega, by unfold IsI; omega, by unfold IsI; omega, FL_1.out⟩, Below.refl _ _⟩
  case round =>
    obtain ⟨k, hk, rfl, ⟨l0, l1, l2, l3, l4, l5, j0, j1, j2, j3, j4, j5, hb⟩, hbr⟩ := hrel
    rcases (by omega : k = 0 ∨ k = 1 ∨ k = 2 ∨ k = 3 ∨ k = 4 ∨ k = 5 ∨ k = 6) with rfl | rfl | rfl | rfl | rfl | rfl | rfl
    · have c0 := hb.cell 0 (v := .int .i64 l0) rfl; have z0 := hb.free 0; have lt0 := hb.lt
      have HBX := Lib.hid hb; have HBR := Lib.hid hbr; clear hb hbr
      cases a0_0
      · go_wp2_with fail
        go_roundw
        case rel => exact ⟨1, by omega, by go_num, ⟨9223372036854775807, l1, l2, l3, l4, l5, (by unfold IsI; omega), j1, j2, j3, j4, j5, by first | exact (HBX.out.set 0 _) | exact ((HBX.out.set 0 _).set 0 _)⟩, by first | exact HBR.out.setCell (p := ⟨w.heap.size + 1 + 1 + 1, 0, none⟩) (Nat.le_refl _) _ | exact (HBR.out.setCell (p := ⟨w.heap.size + 1 + 1 + 1, 0, none⟩) (Nat.le_refl _) _).setCell (p := ⟨w.heap.size + 1 + 1 + 1, 0, none⟩) (Nat.le_refl _) _⟩
        case measure => simp [intOf]
      · go_wp2_with fail
        go_roundw
        case rel => exact ⟨1, by omega, by go_num, ⟨(-9223372036854775808), l1, l2, l3, l4, l5, (by unfold IsI; omega), j1, j2, j3, j4, j5, by first | exact (HBX.out.set 0 _) | exact ((HBX.out.set 0 _).set 0 _)⟩, by first | exact HBR.out.setCell (p := ⟨w.heap.size + 1 + 1 + 1, 0, none⟩) (Nat.le_refl _) _ | exact (HBR.out.setCell (p := ⟨w.heap.size + 1 + 1 + 1, 0, none⟩) (Nat.le_refl _) _).setCell (p := ⟨w.heap.size + 1 + 1 + 1, 0, none⟩) (Nat.le_refl _) _⟩
        case measure => simp [intOf]
    · have c0 := hb.cell 1 (v := .int .i64 l1) rfl; have z0 := hb.free 1; have lt0 := hb.lt
      have HBX := Lib.hid hb; have HBR := Lib.hid hbr; clear hb hbr
      cases a0_1
      · go_wp2_with fail
        go_roundw
        case rel => exact ⟨2, by omega, by go_num, ⟨l0, 9223372036854775807, l2, l3, l4, l5, j0, (by unfold IsI; omega), j2, j3, j4, j5, by first | exact (HBX.out.set 1 _) | exact ((HBX.out.set 1 _).set 1 _)⟩, by first | exact HBR.out.setCell (p := ⟨w.heap.size + 1 + 1 + 1, 1, none⟩) (Nat.le_refl _) _ | exact (HBR.out.setCell (p := ⟨w.heap.size + 1 + 1 + 1, 1, none⟩) (Nat.le_refl _) _).setCell (p := ⟨w.heap.size + 1 + 1 + 1, 1, none⟩) (Nat.le_refl _) _⟩
        case measure => simp [intOf]
      · go_wp2_with fail
        go_roundw
        case rel => exact ⟨2, by omega, by go_num, ⟨l0, (-9223372036854775808), l2, l3, l4, l5, j0, (by unfold IsI; omega), j2, j3, j4, j5, by first | exact (HBX.out.set 1 _) | exact ((HBX.out.set 1 _).set 1 _)⟩, by first | exact HBR.out.setCell (p := ⟨w.heap.size + 1 + 1 + 1, 1, none⟩) (Nat.le_refl _) _ | exact (HBR.out.setCell (p := ⟨w.heap.size + 1 + 1 + 1, 1, none⟩) (Nat.le_refl _) _).setCell (p := ⟨w.heap.size + 1 + 1 + 1, 1, none⟩) (Nat.le_refl _) _⟩
        case measure => simp [intOf]
    · have c0 := hb.cell 2 (v := .int .i64 l2) rfl; have z0 := hb.free 2; have lt0 := hb.lt
      have HBX := Lib.hid hb; have HBR := Lib.hid hbr; clear hb hbr
      cases a0_2
      · go_wp2_with fail
        go_roundw
        case rel => exact ⟨3, by omega, by go_num, ⟨l0, l1, 9223372036854775807, l3, l4, l5, j0, j1, (by unfold IsI; omega), j3, j4, j5, by first | exact (HBX.out.set 2 _) | exact ((HBX.out.set 2 _).set 2 _)⟩, by first | exact HBR.out.setCell (p := ⟨w.heap.size + 1 + 1 + 1, 2, none⟩) (Nat.le_refl _) _ | exact (HBR.out.setCell (p := ⟨w.heap.size + 1 + 1 + 1, 2, none⟩) (Nat.le_refl _) _).setCell (p := ⟨w.heap.size + 1 + 1 + 1, 2, none⟩) (Nat.le_refl _) _⟩
        case measure => simp [intOf]
      · go_wp2_with fail
        go_roundw
        case rel => exact ⟨3, by omega, by go_num, ⟨l0, l1, (-9223372036854775808), l3, l4, l5, j0, j1, (by unfold IsI; omega), j3, j4, j5, by first | exact (HBX.out.set 2 _) | exact ((HBX.out.set 2 _).set 2 _)⟩, by first | exact HBR.out.setCell (p := ⟨w.heap.size + 1 + 1 + 1, 2, none⟩) (Nat.le_refl _) _ | exact (HBR.out.setCell (p := ⟨w.heap.size + 1 + 1 + 1, 2, none⟩) (Nat.le_refl _) _).setCell (p := ⟨w.heap.size + 1 + 1 + 1, 2, none⟩) (Nat.le_refl _) _⟩
        case measure => simp [intOf]
    · have c0 := hb.cell 3 (v := .int .i64 l3) rfl; have z0 := hb.free 3; have lt0 := hb.lt
      have HBX := Lib.hid hb; have HBR := Lib.hid hbr; clear hb hbr
      cases a0_3
      · go_wp2_with fail
        go_roundw
        case rel => exact ⟨4, by omega, by go_num, ⟨l0, l1, l2, 9223372036854775807, l4, l5, j0, j1, j2, (by unfold IsI; omega), j4, j5, by first | exact (HBX.out.set 3 _) | exact ((HBX.out.set 3 _).set 3 _)⟩, by first | exact HBR.out.setCell (p := ⟨w.heap.size + 1 + 1 + 1, 3, none⟩) (Nat.le_refl _) _ | exact (HBR.out.setCell (p := ⟨w.heap.size + 1 + 1 + 1, 3, none⟩) (Nat.le_refl _) _).setCell (p := ⟨w.heap.size + 1 + 1 + 1, 3, none⟩) (Nat.le_refl _) _⟩
        case measure => simp [intOf]
      · go_wp2_with fail
        go_roundw
        case rel => exact ⟨4, by omega, by go_num, ⟨l0, l1, l2, (-9223372036854775808), l4, l5, j0, j1, j2, (by unfold IsI; omega), j4, j5, by first | exact (HBX.out.set 3 _) | exact ((HBX.out.set 3 _).set 3 _)⟩, by first | exact HBR.out.setCell (p := ⟨w.heap.size + 1 + 1 + 1, 3, none⟩) (Nat.le_refl _) _ | exact (HBR.out.setCell (p := ⟨w.heap.size + 1 + 1 + 1, 3, none⟩) (Nat.le_refl _) _).setCell (p := ⟨w.heap.size + 1 + 1 + 1, 3, none⟩) (Nat.le_refl _) _⟩
        case measure => simp [intOf]
    · have c0 := hb.cell 4 (v := .int .i64 l4) rfl; have z0 := hb.free 4; have lt0 := hb.lt
      have HBX := Lib.hid hb; have HBR := Lib.hid hbr; clear hb hbr
      cases a0_4
      · go_wp2_with fail
        go_roundw
        case rel => exact ⟨5, by omega, by go_num, ⟨l0, l1, l2, l3, 9223372036854775807, l5, j0, j1, j2, j3, (by unfold IsI; omega), j5, by first | exact (HBX.out.set 4 _) | exact ((HBX.out.set 4 _).set 4 _)⟩, by first | exact HBR.out.setCell (p := ⟨w.heap.size + 1 + 1 + 1, 4, none⟩) (Nat.le_refl _) _ | exact (HBR.out.setCell (p := ⟨w.heap.size + 1 + 1 + 1, 4, none⟩) (Nat.le_refl _) _).setCell (p := ⟨w.heap.size + 1 + 1 + 1, 4, none⟩) (Nat.le_refl _) _⟩
        case measure => simp [intOf]
      · go_wp2_with fail
        go_roundw
        case rel => exact ⟨5, by omega, by go_num, ⟨l0, l1, l2, l3, (-9223372036854775808), l5, j0, j1, j2, j3, (by unfold IsI; omega), j5, by first | exact (HBX.out.set 4 _) | exact ((HBX.out.set 4 _).set 4 _)⟩, by first | exact HBR.out.setCell (p := ⟨w.heap.size + 1 + 1 + 1, 4, none⟩) (Nat.le_refl _) _ | exact (HBR.out.setCell (p := ⟨w.heap.size + 1 + 1 + 1, 4, none⟩) (Nat.le_refl _) _).setCell (p := ⟨w.heap.size + 1 + 1 + 1, 4, none⟩) (Nat.le_refl _) _⟩
        case measure => simp [intOf]
    · have c0 := hb.cell 5 (v := .int .i64 l5) rfl; have z0 := hb.free 5; have lt0 := hb.lt
      have HBX := Lib.hid hb; have HBR := Lib.hid hbr; clear hb hbr
      cases a0_5
      · go_wp2_with fail
        go_roundw
        case rel => exact ⟨6, by omega, by go_num, ⟨l0, l1, l2, l3, l4, 9223372036854775807, j0, j1, j2, j3, j4, (by unfold IsI; omega), by first | exact (HBX.out.set 5 _) | exact ((HBX.out.set 5 _).set 5 _)⟩, by first | exact HBR.out.setCell (p := ⟨w.heap.size + 1 + 1 + 1, 5, none⟩) (Nat.le_refl _) _ | exact (HBR.out.setCell (p := ⟨w.heap.size + 1 + 1 + 1, 5, none⟩) (Nat.le_refl _) _).setCell (p := ⟨w.heap.size + 1 + 1 + 1, 5, none⟩) (Nat.le_refl _) _⟩
        case measure => simp [intOf]
      · go_wp2_with fail
        go_roundw
        case rel => exact ⟨6, by omega, by go_num, ⟨l0, l1, l2, l3, l4, (-9223372036854775808), j0, j1, j2, j3, j4, (by unfold IsI; omega), by first | exact (HBX.out.set 5 _) | exact ((HBX.out.set 5 _).set 5 _)⟩, by first | exact HBR.out.setCell (p := ⟨w.heap.size + 1 + 1 + 1, 5, none⟩) (Nat.le_refl _) _ | exact (HBR.out.setCell (p := ⟨w.heap.size + 1 + 1 + 1, 5, none⟩) (Nat.le_refl _) _).setCell (p := ⟨w.heap.size + 1 + 1 + 1, 5, none⟩) (Nat.le_refl _) _⟩
        case measure => simp [intOf]
    · have HBW := Lib.hid (HB1.out.trans (hbr.mono (by omega)))
      have GT := Lib.hid (OT.out.below HBW.out (Nat.le_refl _)); have GW := Lib.hid (OW.out.below HBW.out (Nat.le_refl _))
      have GQ := Lib.hid (FQ_1.out.belowB hbr (by omega)); have GR := Lib.hid (FR_1.out.belowB hbr (by omega)); have GL := Lib.hid hb
      clear hb hbr OT OW HB1 FT_1 FW_1 FA_1 FQ_1 FR_1 FL_1
      have q1 := (show P3 l0 l1 l2 l3 l4 l5 from ⟨j0, j1, j2, j3, j4, j5⟩); have q2 := (show P3 l0 l1 a1 b1 a2 b2 from ⟨j0, j1, ia1, ib1, ia2, ib2⟩)
      have t1 := det_bd j0 j1 j2 j3 j4 j5; have t2 := det_bd j0 j1 ia1 ib1 ia2 ib2
      have u1 := Lib.hid (top_tdiv t1); have u2 := Lib.hid (top_tdiv t2); have s1 := Lib.hid (top_small t1); have s2 := Lib.hid (top_small t2); clear t1 t2 j0 j1 j2 j3 j4 j5
      have vL0 := GL.out.cell 0 (v := .int .i64 l0) rfl
      have vL1 := GL.out.cell 1 (v := .int .i64 l1) rfl
      have vL2 := GL.out.cell 2 (v := .int .i64 l2) rfl
      have vL3 := GL.out.cell 3 (v := .int .i64 l3) rfl
      have vL4 := GL.out.cell 4 (v := .int .i64 l4) rfl
      have vL5 := GL.out.cell 5 (v := .int .i64 l5) rfl
      have vQ0 := GQ.out.cell 0 (v := .int .i64 a1) rfl
      have vQ1 := GQ.out.cell 1 (v := .int .i64 b1) rfl
      have vR0 := GR.out.cell 0 (v := .int .i64 a2) rfl
      have vR1 := GR.out.cell 1 (v := .int .i64 b2) rfl
      go_wp2_with fail
      refine (orient_Value l0 l1 l2 l3 l4 l5 q1 _).mono ?_
      rintro e w11 ⟨⟨U1, c1, rfl, S1⟩, B⟩
      clear vL0 vL1 vL2 vL3 vL4 vL5 vQ0 vQ1 vR0 vR1
      have HB11 := Lib.hid (HBW.out.trans (B.mono HBW.out.size))
      have FT_11 := Lib.hid (GT.out.below B (Nat.le_refl _))
      have FW_11 := Lib.hid (GW.out.below B (Nat.le_refl _))
      have FQ_11 := Lib.hid (GQ.out.below B (Nat.le_refl _))
      have FR_11 := Lib.hid (GR.out.below B (Nat.le_refl _))
      have FL_11 := Lib.hid (GL.out.below B (Nat.le_refl _))
      have FV1_11 := Lib.hid S1
      clear B S1 HBW GT GW GQ GR GL
      have vL0 := FL_11.out.cell 0 (v := .int .i64 l0) rfl
      have vL1 := FL_11.out.cell 1 (v := .int .i64 l1) rfl
      have vL2 := FL_11.out.cell 2 (v := .int .i64 l2) rfl
      have vL3 := FL_11.out.cell 3 (v := .int .i64 l3) rfl
      have vL4 := FL_11.out.cell 4 (v := .int .i64 l4) rfl
      have vL5 := FL_11.out.cell 5 (v := .int .i64 l5) rfl
      have vQ0 := FQ_11.out.cell 0 (v := .int .i64 a1) rfl
      have vQ1 := FQ_11.out.cell 1 (v := .int .i64 b1) rfl
      have vR0 := FR_11.out.cell 0 (v := .int .i64 a2) rfl
      have vR1 := FR_11.out.cell 1 (v := .int .i64 b2) rfl
      go_wp2_with fail
      refine (orient_Value l0 l1 a1 b1 a2 b2 q2 _).mono ?_
      rintro e w12 ⟨⟨U2, c2, rfl, S2⟩, B⟩
      clear vL0 vL1 vL2 vL3 vL4 vL5 vQ0 vQ1 vR0 vR1
      have HB12 := Lib.hid (HB11.out.trans (B.mono HB11.out.size))
      have FT_12 := Lib.hid (FT_11.out.below B (Nat.le_refl _))
      have FW_12 := Lib.hid (FW_11.out.below B (Nat.le_refl _))
      have FQ_12 := Lib.hid (FQ_11.out.below B (Nat.le_refl _))
      have FR_12 := Lib.hid (FR_11.out.below B (Nat.le_refl _))
      have FL_12 := Lib.hid (FL_11.out.below B (Nat.le_refl _))
      have FV1_12 := Lib.hid (FV1_11.out.below B (Nat.le_refl _))
      have FV2_12 := Lib.hid S2
      clear B S2 HB11 FT_11 FW_11 FQ_11 FR_11 FL_11 FV1_11
      obtain ⟨vb1, vo1, ev1, -⟩ := sl_cell FV1_12.out (i := 2) (by omega); obtain ⟨vb2, vo2, ev2, -⟩ := sl_cell FV2_12.out (i := 2) (by omega); subst ev1 ev2
      go_wp2_with fail
      refine (alive6 _ FT_12.out FW_12.out).mono ?_
      rintro e w13 ⟨rfl, B⟩
      have HB13 := Lib.hid (HB12.out.trans (B.mono HB12.out.size))
      have FT_13 := Lib.hid (FT_12.out.below B (Nat.le_refl _))
      have FW_13 := Lib.hid (FW_12.out.below B (Nat.le_refl _))
      have FV1_13 := Lib.hid (FV1_12.out.below B (Nat.le_refl _))
      have FV2_13 := Lib.hid (FV2_12.out.below B (Nat.le_refl _))
      clear B  HB12 FT_12 FW_12 FV1_12 FV2_12
      have cv1 := sl_at FV1_13.out (i := 2) (by omega); have cv2 := sl_at FV2_13.out (i := 2) (by omega)
      have d1 := u1.out.1; have d2 := u2.out.1; have e1 := s1.out; have e2 := s2.out; have p1 := u1.out.2; have p2 := u2.out.2
      go_wp2_with fail
      go_ret
      exact ⟨rfl, HB13.out⟩

theorem gTab0 : Tryd.prog.globalNamed "geofence/mask.words" = some 1 := by kernel_rfl
theorem gTabType0 : (Tryd.prog.globals[1]?).map (·.type) = some 69 := by kernel_rfl
theorem cellsT0 : Tryd.prog.cellsOf 69 = 2 := by kernel_rfl
theorem cellsE0 : Tryd.prog.cellsOf 36 = 1 := by kernel_rfl
theorem tableIs0 {W : World} (h : laidMetH Tryd.prog Rows.orientFitsRow.laid W) : Lib.TabIs Tryd.prog W "geofence/mask.words" .u64 [9223372036854775808, 18446744073709551615] :=
  Lib.tabIs_of_head (rest := _) gTab0 gTabType0 Tryd.underlying69 Tryd.underlying36 cellsE0 cellsT0 h
theorem table0 {W : World} (h : laidMetH Tryd.prog Rows.orientFitsRow.laid W) : TabM W := ⟨(tableIs0 h).cell gTab0 0 (by decide), (tableIs0 h).cell gTab0 1 (by decide)⟩

theorem gTab1 : Tryd.prog.globalNamed "geofence/orient.wanted" = some 0 := by kernel_rfl
theorem gTabType1 : (Tryd.prog.globals[0]?).map (·.type) = some 69 := by kernel_rfl
theorem cellsT1 : Tryd.prog.cellsOf 69 = 2 := by kernel_rfl
theorem cellsE1 : Tryd.prog.cellsOf 36 = 1 := by kernel_rfl
theorem tableIs1 {W : World} (h : laidMetH Tryd.prog Rows.orientFitsRow.laid W) : Lib.TabIs Tryd.prog W "geofence/orient.wanted" .u64 [0, 1] :=
  Lib.tabIs_of_head (rest := _) gTab1 gTabType1 Tryd.underlying69 Tryd.underlying36 cellsE1 cellsT1 (laid_tail h)
theorem table1 {W : World} (h : laidMetH Tryd.prog Rows.orientFitsRow.laid W) : TabO W := ⟨(tableIs1 h).cell gTab1 0 (by decide), (tableIs1 h).cell gTab1 1 (by decide)⟩

theorem contract (H : Type) (enc : TypeId × Value → H) (W : World) (base : Nat) (args : Array Value) (ds gs : List (DataW H)) (before : List MemPlace)
    (hval : ∀ (j : Nat) t v, Tryd.f8.params[j]? = some t → args[j]? = some v → Value.okWide Tryd.prog W .any base t v)
    (hW : DataW.Whole enc Tryd.prog Tryd.f8.params.toList Rows.orientFitsSpec.vars false W args.toList ds gs before) (hL : laidMetH Tryd.prog Rows.orientFitsRow.laid W) :
    Calls Tryd.prog 8 args W fun e W' => ∃ v, e = .returned v ∧ Rows.orientFitsSpec.post enc Tryd.prog Tryd.f8 false true false false W args v W' := by
  have hW' := hW
  obtain ⟨p, q, hA0, hV, rfl, hfz, hnd⟩ := hW
  have hA : DataW.TrodAll enc Tryd.prog W 0 (fun _ => true) true Tryd.f8.params.toList args.toList ds p := hA0
  rw [Tryd.params8] at hA hval
  obtain ⟨v0, vs0, d0, ds0, p0, q0, hargs, rfl, rfl, h0, r0⟩ := trodAll_cons hA
  obtain ⟨v1, vs1, d1, ds1, p1, q1, rfl, rfl, rfl, h1, r1⟩ := trodAll_cons r0
  obtain ⟨v2, vs2, d2, ds2, p2, q2, rfl, rfl, rfl, h2, r2⟩ := trodAll_cons r1
  obtain ⟨rfl, rfl, rfl⟩ := trodAll_nil r2
  obtain rfl : args = #[v0, v1, v2] := by cases args; simp_all
  obtain ⟨rfl, rfl⟩ := trodVars_none hV
  have k0 := h0
  have lt0 : ∀ x ∈ p0, x.block < W.heap.size := by obtain ⟨m, hm⟩ := k0; exact DataW.trod_lt m _ _ _ hm
  have k1 := h1
  have lt1 : ∀ x ∈ p1, x.block < W.heap.size := by obtain ⟨m, hm⟩ := k1; exact DataW.trod_lt m _ _ _ hm
  have k2 := h2
  have lt2 : ∀ x ∈ p2, x.block < W.heap.size := by obtain ⟨m, hm⟩ := k2; exact DataW.trod_lt m _ _ _ hm
  obtain ⟨a0_0, a0_1, a0_2, a0_3, a0_4, a0_5, rfl⟩ := Op.open_six Tryd.underlying45 Tryd.underlying4 (by kernel_rfl) (by kernel_rfl) h0
  obtain ⟨a1, b1, rfl, w1, x1⟩ := Op.open_pt Tryd.underlying23 rfl rfl rfl rfl Tryd.underlying2 (by kernel_rfl) (by kernel_rfl) h1
  obtain ⟨a2, b2, rfl, w2, x2⟩ := Op.open_pt Tryd.underlying23 rfl rfl rfl rfl Tryd.underlying2 (by kernel_rfl) (by kernel_rfl) h2
  clear hA0
  refine (walk a0_0 a0_1 a0_2 a0_3 a0_4 a0_5 a1 b1 w1 x1 a2 b2 w2 x2 (table0 hL) (table1 hL)).mono fun e W' ⟨he, bel⟩ => ?_
  subst he
  exact ⟨_, rfl, _, _, _, [], _, [], hW', trodAll_mk1 (shut_bool Tryd.underlying4 _), (trodAll_cons_mk (Below.trod laidOut (by kernel_rfl) (of_decide_eq_true (by kernel_rfl)) k0 bel lt0) (trodAll_cons_mk (Below.trod laidOut (by kernel_rfl) (of_decide_eq_true (by kernel_rfl)) k1 bel lt1) (trodAll_cons_mk (Below.trod laidOut (by kernel_rfl) (of_decide_eq_true (by kernel_rfl)) k2 bel lt2) trodAll_mk0))), rfl, bel.frame _, fun h => by cases h⟩

noncomputable def laidHeap (os : Os) : Array Obj :=
  ((World.holding Tryd.prog os ⟨#[], #[], []⟩).heap.modify 1 (fun
      | .cells _ t frozen => .cells #[.int .u64 9223372036854775808, .int .u64 18446744073709551615] t frozen
      | o => o)).modify 0 (fun
      | .cells _ t frozen => .cells #[.int .u64 0, .int .u64 1] t frozen
      | o => o)
noncomputable def laidWorld (os : Os) : World :=
  { World.holding Tryd.prog os ⟨#[], #[], []⟩ with heap := laidHeap os }
theorem laid_met (os : Os) : laidMet Tryd.prog Rows.orientFitsRow.laid ((laidWorld os).forCall (fun _ _ => 0) ⟨#[], #[.agg #[.bool false, .bool false, .bool false, .bool false, .bool false, .bool false], .agg #[.int .i64 0, .int .i64 0], .agg #[.int .i64 0, .int .i64 0]], []⟩).memory :=
  laidMet_of_run' 8 (by kernel_rfl) (by kernel_rfl)
theorem reads (os : Os) {H : Type} (enc : TypeId × Value → H) : ∃ places, DataW.whole enc Tryd.prog ((laidWorld os).forCall (fun _ _ => 0) ⟨#[], #[.agg #[.bool false, .bool false, .bool false, .bool false, .bool false, .bool false], .agg #[.int .i64 0, .int .i64 0], .agg #[.int .i64 0, .int .i64 0]], []⟩).memory Tryd.f8.params.toList Rows.orientFitsSpec.vars false (#[.agg #[.bool false, .bool false, .bool false, .bool false, .bool false, .bool false], .agg #[.int .i64 0, .int .i64 0], .agg #[.int .i64 0, .int .i64 0]] : Array Value).toList 8 = some ([.agg [.lit (.bool false), .lit (.bool false), .lit (.bool false), .lit (.bool false), .lit (.bool false), .lit (.bool false)], .agg [.lit (.int .i64 0), .lit (.int .i64 0)], .agg [.lit (.int .i64 0), .lit (.int .i64 0)]], [], places) :=
  ⟨[], by kernel_rfl⟩

set_option maxRecDepth 100000 in
theorem lifted (os : Os) (started : os.Started) (H : Type) (enc : TypeId × Value → H) (F : Stop.Interp) :
    ReturnsInHanded {} Tryd.checked os 8 .any ((OpenSpec.ofChange Rows.orientFitsSpec).preRow enc Tryd.prog Tryd.f8 Rows.orientFitsRow.domain false Rows.orientFitsRow.laid) (((OpenSpec.ofChange Rows.orientFitsSpec).at F).post enc Tryd.prog Tryd.f8 false true false false) := by
  obtain ⟨places, hx⟩ := reads os enc
  refine returnsInHanded_of_row (C := Tryd.checked) (s := OpenSpec.ofChange Rows.orientFitsSpec) own started (by kernel_rfl) Tryd.func8
    (witness_row_at (enc := enc) (C := Tryd.checked) false (laidWorld os) #[.agg #[.bool false, .bool false, .bool false, .bool false, .bool false, .bool false], .agg #[.int .i64 0, .int .i64 0], .agg #[.int .i64 0, .int .i64 0]] rfl (by kernel_rfl) (by kernel_rfl) (by kernel_rfl)
      (OpenSpec.preRow_of_cond 8 hx (by kernel_rfl) (fun k hk => by cases hk) (by kernel_rfl) (laid_met os))) ?_
  intro W base args ds gs before hval hW _ _ _ hL _ _
  exact contract H enc W base args ds gs before hval hW hL

theorem said : Rows.OrientFitsSaid :=
  OpenClaim.holds_of_cond 8 Tryd.f8 rfl rfl rfl rfl rfl rfl rfl ⟨rfl, rfl, rfl, rfl, rfl⟩ rfl rfl rfl rfl rfl (by kernel_rfl) Tryd.func8 (by kernel_rfl)
    (of_decide_eq_true (by kernel_rfl)) (by unfold Func.isWrapper; first | (rw [if_pos (by decide +kernel)]; kernel_rfl) | (rw [if_neg (by decide +kernel)]; exact ⟨rfl, rfl⟩))
    (fun os started H enc _ F => by rw [OpenClaim.pre_eq_preRow]; exact lifted os started H enc F)

theorem plain (f : FuncId) (fn : Func) (hf : Tryd.pinned.checked.prog.funcNamed "geofence/geofencelaw06.OrientFits" = some f) (hfn : Tryd.pinned.checked.prog.funcs[f]? = some fn) :
    false = Tryd.pinned.checked.prog.looks [] ∧ ∀ (j : Nat) t, fn.params[j]? = some t → Tryd.pinned.checked.prog.wantsStandIn t = false := by
  obtain rfl : f = 8 := Option.some.inj ((show Tryd.prog.funcNamed "geofence/geofencelaw06.OrientFits" = some 8 by kernel_rfl).symm.trans hf) |>.symm
  obtain rfl : fn = Tryd.f8 := (Option.some.inj (Tryd.func8.symm.trans hfn)).symm
  refine ⟨by kernel_rfl, fun j t ht => ?_⟩
  rw [Tryd.params8] at ht
  have hm := Array.mem_of_getElem? ht
  simp at hm
  rcases hm with rfl | rfl
  · exact (show Tryd.prog.wantsStandIn 45 = false by kernel_rfl)
  · exact (show Tryd.prog.wantsStandIn 23 = false by kernel_rfl)

/-- THE CARD -/
theorem card : Rows.OrientFitsCardSaid :=
  Claim7.holds_tied_plain_at .later [] _ _ _ _ said (fun _ h => by cases h) (by kernel_rfl) (fun _ h => by cases h) orientFits_row_tie rfl ⟨rfl, rfl⟩ (by kernel_rfl) rfl plain (by kernel_rfl)
#print axioms card
end Go.Proofs.YtfjanlfbnliokaaDoor.orientFits
