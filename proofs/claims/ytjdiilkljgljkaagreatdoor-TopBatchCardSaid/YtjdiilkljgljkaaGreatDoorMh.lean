/- Part h of the lemmas of TopBatch: contracts of functions of the program, and plain laws of numbers, bytes and memory. -/
import Derived.Test.YtjdiilkljgljkaaGreatDoorMg
import Derived.Test.YtjdiilkljgljkaaGreatDoorMb
import Derived.OwnWalk
import Derived.Test.YtjdiilkljgljkaaGreatDoorMc
import Derived.Defers
import Derived.Recover
import Derived.Deep.DeepCutAuto
import Derived.Lib.MinMax
import Derived.Test.YtjdiilkljgljkaaGreatDoorMa
import Derived.Deep.RegionHeld3
set_option maxHeartbeats 4000000
namespace Go.Proofs.YtjdiilkljgljkaaGreatDoor
set_option linter.unusedVariables false
set_option linter.unusedSimpArgs false
open Go.RowKit Wd
set_option maxRecDepth 100000 in
theorem JG (op : Int) (ho : op = 1 ∨ op = 2) (x : Int) (hx : x = 0 ∨ x = 1 ∨ x = 2) (w : World) :
  Calls Tryz.prog 89 #[.agg #[.int .i64 op, .int .i64 0, .slice none 0 0, .int .i64 0], .agg #[.int .i64 x, .int .i64 0, .slice none 0 0]] w fun e w' => e = .returned (.bool true) ∧ Below w.heap.size w w' := by
 rcases ho with rfl | rfl <;> rcases hx with rfl | rfl | rfl
 ·go_enter Tryz.func89, Tryz.ntmps89
  go_wp2_with fail
  refine wp_loop_rounds 1 ?_
  rw [rounds_succ]
  go_wp2_with fail
  go_ret
  exact ⟨rfl, by repeat (first | exact J0 | refine J8 ?_)⟩
 ·go_enter Tryz.func89, Tryz.ntmps89
  go_wp2_with fail
  refine wp_loop_rounds 1 ?_
  rw [rounds_succ]
  go_wp2_with fail
  go_ret
  exact ⟨rfl, by repeat (first | exact J0 | refine J8 ?_)⟩
 ·go_enter Tryz.func89, Tryz.ntmps89
  go_wp2_with fail
  refine wp_loop_rounds 1 ?_
  rw [rounds_succ]
  go_wp2_with fail
  go_ret
  exact ⟨rfl, by repeat (first | exact J0 | refine J8 ?_)⟩
 ·go_enter Tryz.func89, Tryz.ntmps89
  go_wp2_with fail
  refine wp_loop_rounds 1 ?_
  rw [rounds_succ]
  go_wp2_with fail
  go_ret
  exact ⟨rfl, by repeat (first | exact J0 | refine J8 ?_)⟩
 ·go_enter Tryz.func89, Tryz.ntmps89
  go_wp2_with fail
  refine wp_loop_rounds 1 ?_
  rw [rounds_succ]
  go_wp2_with fail
  go_ret
  exact ⟨rfl, by repeat (first | exact J0 | refine J8 ?_)⟩
 ·go_enter Tryz.func89, Tryz.ntmps89
  go_wp2_with fail
  refine wp_loop_rounds 1 ?_
  rw [rounds_succ]
  go_wp2_with fail
  go_ret
  exact ⟨rfl, by repeat (first | exact J0 | refine J8 ?_)⟩
set_option maxRecDepth 100000 in
theorem Zdm (op : Int) (ho : op = 1 ∨ op = 2) (x : Int) (hx : x = 0 ∨ x = 1 ∨ x = 2) (w : World) :
  Calls Tryz.prog 56 #[.agg #[.int .i64 op, .int .i64 0, .slice none 0 0, .int .i64 0], .agg #[.int .i64 x, .int .i64 0, .slice none 0 0]] w fun e w' => (∃ A c, e = .returned (.tuple #[.slice A 2 c, .int .i64 0]) ∧ By w' A c [0, x]) ∧ Below w.heap.size w w' := by
 rcases ho with rfl | rfl <;> rcases hx with rfl | rfl | rfl
 ·go_enter Tryz.func56, Tryz.ntmps56
  go_wp2_with fail
  have HH := η (show Bx ((w.alloc (.cells #[.int .i64 1, .int .i64 0, .slice none 0 0, .int .i64 0] 28)).alloc (.cells #[.int .i64 0, .int .i64 0, .slice none 0 0] 102)) w.heap.size #[.int .i64 1, .int .i64 0, .slice none 0 0, .int .i64 0] 28 from (Bx.new _ _ _).alloc _)
  have HA := η (show Bx ((w.alloc (.cells #[.int .i64 1, .int .i64 0, .slice none 0 0, .int .i64 0] 28)).alloc (.cells #[.int .i64 0, .int .i64 0, .slice none 0 0] 102)) (w.heap.size + 1) #[.int .i64 0, .int .i64 0, .slice none 0 0] 102 from Jb (by simp))
  have HB1 := η (show Below w.heap.size w ((w.alloc (.cells #[.int .i64 1, .int .i64 0, .slice none 0 0, .int .i64 0] 28)).alloc (.cells #[.int .i64 0, .int .i64 0, .slice none 0 0] 102)) from J8 (J8 J0))
  generalize (w.alloc (.cells #[.int .i64 1, .int .i64 0, .slice none 0 0, .int .i64 0] 28)).alloc (.cells #[.int .i64 0, .int .i64 0, .slice none 0 0] 102) = w1 at *
  have c0 := HH.out.cell 0 (v := .int .i64 1) rfl
  have c1 := HH.out.cell 1 (v := .int .i64 0) rfl
  have c2 := HH.out.cell 2 (v := .slice none 0 0) rfl
  have c3 := HH.out.cell 3 (v := .int .i64 0) rfl
  go_wp2_with fail
  clear c0 c1 c2 c3
  refine (Jw 1 (by decide) _).mono ?_
  rintro e w2 ⟨⟨v, rfl, ho2⟩, B⟩
  obtain ⟨A', c', rfl⟩ := ho2.slice
  have HH2 := η (HH.out.below B ν); have HA2 := η (HA.out.below B ν); have HB2 := η (HB1.out.trans (B.mono HB1.out.size)); clear B ho2 HH HA HB1
  have c0 := HH2.out.cell 0 (v := .int .i64 1) rfl
  have c1 := HH2.out.cell 1 (v := .int .i64 0) rfl
  have c2 := HH2.out.cell 2 (v := .slice none 0 0) rfl
  have c3 := HH2.out.cell 3 (v := .int .i64 0) rfl
  have a0 := HA2.out.cell 0 (v := .int .i64 0) rfl
  have a1 := HA2.out.cell 1 (v := .int .i64 0) rfl
  have a2 := HA2.out.cell 2 (v := .slice none 0 0) rfl
  go_wp2_with fail
  clear c0 c1 c2 c3 a0 a1 a2
  refine (JG 1 (by decide) 0 (by decide) _).mono ?_
  rintro e w3 ⟨rfl, B⟩
  have HH3 := η (HH2.out.below B ν); have HA3 := η (HA2.out.below B ν); have HB3 := η (HB2.out.trans (B.mono HB2.out.size)); clear B HH2 HA2 HB2
  have a0 := HA3.out.cell 0 (v := .int .i64 0) rfl
  have c0 := ((HH3.out.alloc (.cells #[.int .u8 0, .int .u8 0] 5)).alloc (.cells #[.slice (some ⟨w3.heap.size, 0, none⟩) 2 2] 142)).cell 0 (v := .int .i64 1) rfl
  have a2 := ((HA3.out.alloc (.cells #[.int .u8 0, .int .u8 0] 5)).alloc (.cells #[.slice (some ⟨w3.heap.size, 0, none⟩) 2 2] 142)).cell 2 (v := .slice none 0 0) rfl
  go_wp2_with fail
  refine (Zac _ _ _ _).mono ?_
  rintro e w4 ⟨rfl, rfl⟩
  go_wp2_with fail
  go_ret2
  refine ⟨⟨_, _, rfl, ?_⟩, (HB3.out.alloc HB3.out.size _).alloc (by have := HB3.out.size; simp; omega) _⟩
  refine ⟨by decide, by decide, fun _ => ⟨w3.heap.size, 0, rfl, (by simp <;> omega), fun i x hi => ?_⟩⟩
  have HBX := ((Bx.new w3 #[.int .u8 0, .int .u8 0] 5).alloc (.cells #[.slice (some ⟨w3.heap.size, 0, none⟩) 2 2] 142))
  match i, hi with
  | 0, hi => simp at hi; subst hi; exact HBX.cell 0 rfl
  | 1, hi => simp at hi; subst hi; exact HBX.cell 1 rfl
  | i + 2, hi => simp at hi
 ·go_enter Tryz.func56, Tryz.ntmps56
  go_wp2_with fail
  have HH := η (show Bx ((w.alloc (.cells #[.int .i64 1, .int .i64 0, .slice none 0 0, .int .i64 0] 28)).alloc (.cells #[.int .i64 1, .int .i64 0, .slice none 0 0] 102)) w.heap.size #[.int .i64 1, .int .i64 0, .slice none 0 0, .int .i64 0] 28 from (Bx.new _ _ _).alloc _)
  have HA := η (show Bx ((w.alloc (.cells #[.int .i64 1, .int .i64 0, .slice none 0 0, .int .i64 0] 28)).alloc (.cells #[.int .i64 1, .int .i64 0, .slice none 0 0] 102)) (w.heap.size + 1) #[.int .i64 1, .int .i64 0, .slice none 0 0] 102 from Jb (by simp))
  have HB1 := η (show Below w.heap.size w ((w.alloc (.cells #[.int .i64 1, .int .i64 0, .slice none 0 0, .int .i64 0] 28)).alloc (.cells #[.int .i64 1, .int .i64 0, .slice none 0 0] 102)) from J8 (J8 J0))
  generalize (w.alloc (.cells #[.int .i64 1, .int .i64 0, .slice none 0 0, .int .i64 0] 28)).alloc (.cells #[.int .i64 1, .int .i64 0, .slice none 0 0] 102) = w1 at *
  have c0 := HH.out.cell 0 (v := .int .i64 1) rfl
  have c1 := HH.out.cell 1 (v := .int .i64 0) rfl
  have c2 := HH.out.cell 2 (v := .slice none 0 0) rfl
  have c3 := HH.out.cell 3 (v := .int .i64 0) rfl
  go_wp2_with fail
  clear c0 c1 c2 c3
  refine (Jw 1 (by decide) _).mono ?_
  rintro e w2 ⟨⟨v, rfl, ho2⟩, B⟩
  obtain ⟨A', c', rfl⟩ := ho2.slice
  have HH2 := η (HH.out.below B ν); have HA2 := η (HA.out.below B ν); have HB2 := η (HB1.out.trans (B.mono HB1.out.size)); clear B ho2 HH HA HB1
  have c0 := HH2.out.cell 0 (v := .int .i64 1) rfl
  have c1 := HH2.out.cell 1 (v := .int .i64 0) rfl
  have c2 := HH2.out.cell 2 (v := .slice none 0 0) rfl
  have c3 := HH2.out.cell 3 (v := .int .i64 0) rfl
  have a0 := HA2.out.cell 0 (v := .int .i64 1) rfl
  have a1 := HA2.out.cell 1 (v := .int .i64 0) rfl
  have a2 := HA2.out.cell 2 (v := .slice none 0 0) rfl
  go_wp2_with fail
  clear c0 c1 c2 c3 a0 a1 a2
  refine (JG 1 (by decide) 1 (by decide) _).mono ?_
  rintro e w3 ⟨rfl, B⟩
  have HH3 := η (HH2.out.below B ν); have HA3 := η (HA2.out.below B ν); have HB3 := η (HB2.out.trans (B.mono HB2.out.size)); clear B HH2 HA2 HB2
  have a0 := HA3.out.cell 0 (v := .int .i64 1) rfl
  have c0 := ((HH3.out.alloc (.cells #[.int .u8 0, .int .u8 1] 5)).alloc (.cells #[.slice (some ⟨w3.heap.size, 0, none⟩) 2 2] 142)).cell 0 (v := .int .i64 1) rfl
  have a2 := ((HA3.out.alloc (.cells #[.int .u8 0, .int .u8 1] 5)).alloc (.cells #[.slice (some ⟨w3.heap.size, 0, none⟩) 2 2] 142)).cell 2 (v := .slice none 0 0) rfl
  go_wp2_with fail
  refine (Zac _ _ _ _).mono ?_
  rintro e w4 ⟨rfl, rfl⟩
  go_wp2_with fail
  go_ret2
  refine ⟨⟨_, _, rfl, ?_⟩, (HB3.out.alloc HB3.out.size _).alloc (by have := HB3.out.size; simp; omega) _⟩
  refine ⟨by decide, by decide, fun _ => ⟨w3.heap.size, 0, rfl, (by simp <;> omega), fun i x hi => ?_⟩⟩
  have HBX := ((Bx.new w3 #[.int .u8 0, .int .u8 1] 5).alloc (.cells #[.slice (some ⟨w3.heap.size, 0, none⟩) 2 2] 142))
  match i, hi with
  | 0, hi => simp at hi; subst hi; exact HBX.cell 0 rfl
  | 1, hi => simp at hi; subst hi; exact HBX.cell 1 rfl
  | i + 2, hi => simp at hi
 ·go_enter Tryz.func56, Tryz.ntmps56
  go_wp2_with fail
  have HH := η (show Bx ((w.alloc (.cells #[.int .i64 1, .int .i64 0, .slice none 0 0, .int .i64 0] 28)).alloc (.cells #[.int .i64 2, .int .i64 0, .slice none 0 0] 102)) w.heap.size #[.int .i64 1, .int .i64 0, .slice none 0 0, .int .i64 0] 28 from (Bx.new _ _ _).alloc _)
  have HA := η (show Bx ((w.alloc (.cells #[.int .i64 1, .int .i64 0, .slice none 0 0, .int .i64 0] 28)).alloc (.cells #[.int .i64 2, .int .i64 0, .slice none 0 0] 102)) (w.heap.size + 1) #[.int .i64 2, .int .i64 0, .slice none 0 0] 102 from Jb (by simp))
  have HB1 := η (show Below w.heap.size w ((w.alloc (.cells #[.int .i64 1, .int .i64 0, .slice none 0 0, .int .i64 0] 28)).alloc (.cells #[.int .i64 2, .int .i64 0, .slice none 0 0] 102)) from J8 (J8 J0))
  generalize (w.alloc (.cells #[.int .i64 1, .int .i64 0, .slice none 0 0, .int .i64 0] 28)).alloc (.cells #[.int .i64 2, .int .i64 0, .slice none 0 0] 102) = w1 at *
  have c0 := HH.out.cell 0 (v := .int .i64 1) rfl
  have c1 := HH.out.cell 1 (v := .int .i64 0) rfl
  have c2 := HH.out.cell 2 (v := .slice none 0 0) rfl
  have c3 := HH.out.cell 3 (v := .int .i64 0) rfl
  go_wp2_with fail
  clear c0 c1 c2 c3
  refine (Jw 1 (by decide) _).mono ?_
  rintro e w2 ⟨⟨v, rfl, ho2⟩, B⟩
  obtain ⟨A', c', rfl⟩ := ho2.slice
  have HH2 := η (HH.out.below B ν); have HA2 := η (HA.out.below B ν); have HB2 := η (HB1.out.trans (B.mono HB1.out.size)); clear B ho2 HH HA HB1
  have c0 := HH2.out.cell 0 (v := .int .i64 1) rfl
  have c1 := HH2.out.cell 1 (v := .int .i64 0) rfl
  have c2 := HH2.out.cell 2 (v := .slice none 0 0) rfl
  have c3 := HH2.out.cell 3 (v := .int .i64 0) rfl
  have a0 := HA2.out.cell 0 (v := .int .i64 2) rfl
  have a1 := HA2.out.cell 1 (v := .int .i64 0) rfl
  have a2 := HA2.out.cell 2 (v := .slice none 0 0) rfl
  go_wp2_with fail
  clear c0 c1 c2 c3 a0 a1 a2
  refine (JG 1 (by decide) 2 (by decide) _).mono ?_
  rintro e w3 ⟨rfl, B⟩
  have HH3 := η (HH2.out.below B ν); have HA3 := η (HA2.out.below B ν); have HB3 := η (HB2.out.trans (B.mono HB2.out.size)); clear B HH2 HA2 HB2
  have a0 := HA3.out.cell 0 (v := .int .i64 2) rfl
  have c0 := ((HH3.out.alloc (.cells #[.int .u8 0, .int .u8 2] 5)).alloc (.cells #[.slice (some ⟨w3.heap.size, 0, none⟩) 2 2] 142)).cell 0 (v := .int .i64 1) rfl
  have a2 := ((HA3.out.alloc (.cells #[.int .u8 0, .int .u8 2] 5)).alloc (.cells #[.slice (some ⟨w3.heap.size, 0, none⟩) 2 2] 142)).cell 2 (v := .slice none 0 0) rfl
  go_wp2_with fail
  refine (Zac _ _ _ _).mono ?_
  rintro e w4 ⟨rfl, rfl⟩
  go_wp2_with fail
  go_ret2
  refine ⟨⟨_, _, rfl, ?_⟩, (HB3.out.alloc HB3.out.size _).alloc (by have := HB3.out.size; simp; omega) _⟩
  refine ⟨by decide, by decide, fun _ => ⟨w3.heap.size, 0, rfl, (by simp <;> omega), fun i x hi => ?_⟩⟩
  have HBX := ((Bx.new w3 #[.int .u8 0, .int .u8 2] 5).alloc (.cells #[.slice (some ⟨w3.heap.size, 0, none⟩) 2 2] 142))
  match i, hi with
  | 0, hi => simp at hi; subst hi; exact HBX.cell 0 rfl
  | 1, hi => simp at hi; subst hi; exact HBX.cell 1 rfl
  | i + 2, hi => simp at hi
 ·go_enter Tryz.func56, Tryz.ntmps56
  go_wp2_with fail
  have HH := η (show Bx ((w.alloc (.cells #[.int .i64 2, .int .i64 0, .slice none 0 0, .int .i64 0] 28)).alloc (.cells #[.int .i64 0, .int .i64 0, .slice none 0 0] 102)) w.heap.size #[.int .i64 2, .int .i64 0, .slice none 0 0, .int .i64 0] 28 from (Bx.new _ _ _).alloc _)
  have HA := η (show Bx ((w.alloc (.cells #[.int .i64 2, .int .i64 0, .slice none 0 0, .int .i64 0] 28)).alloc (.cells #[.int .i64 0, .int .i64 0, .slice none 0 0] 102)) (w.heap.size + 1) #[.int .i64 0, .int .i64 0, .slice none 0 0] 102 from Jb (by simp))
  have HB1 := η (show Below w.heap.size w ((w.alloc (.cells #[.int .i64 2, .int .i64 0, .slice none 0 0, .int .i64 0] 28)).alloc (.cells #[.int .i64 0, .int .i64 0, .slice none 0 0] 102)) from J8 (J8 J0))
  generalize (w.alloc (.cells #[.int .i64 2, .int .i64 0, .slice none 0 0, .int .i64 0] 28)).alloc (.cells #[.int .i64 0, .int .i64 0, .slice none 0 0] 102) = w1 at *
  have c0 := HH.out.cell 0 (v := .int .i64 2) rfl
  have c1 := HH.out.cell 1 (v := .int .i64 0) rfl
  have c2 := HH.out.cell 2 (v := .slice none 0 0) rfl
  have c3 := HH.out.cell 3 (v := .int .i64 0) rfl
  go_wp2_with fail
  clear c0 c1 c2 c3
  refine (Jw 2 (by decide) _).mono ?_
  rintro e w2 ⟨⟨v, rfl, ho2⟩, B⟩
  obtain ⟨A', c', rfl⟩ := ho2.slice
  have HH2 := η (HH.out.below B ν); have HA2 := η (HA.out.below B ν); have HB2 := η (HB1.out.trans (B.mono HB1.out.size)); clear B ho2 HH HA HB1
  have c0 := HH2.out.cell 0 (v := .int .i64 2) rfl
  have c1 := HH2.out.cell 1 (v := .int .i64 0) rfl
  have c2 := HH2.out.cell 2 (v := .slice none 0 0) rfl
  have c3 := HH2.out.cell 3 (v := .int .i64 0) rfl
  have a0 := HA2.out.cell 0 (v := .int .i64 0) rfl
  have a1 := HA2.out.cell 1 (v := .int .i64 0) rfl
  have a2 := HA2.out.cell 2 (v := .slice none 0 0) rfl
  go_wp2_with fail
  clear c0 c1 c2 c3 a0 a1 a2
  refine (JG 2 (by decide) 0 (by decide) _).mono ?_
  rintro e w3 ⟨rfl, B⟩
  have HH3 := η (HH2.out.below B ν); have HA3 := η (HA2.out.below B ν); have HB3 := η (HB2.out.trans (B.mono HB2.out.size)); clear B HH2 HA2 HB2
  have a0 := HA3.out.cell 0 (v := .int .i64 0) rfl
  have c0 := ((HH3.out.alloc (.cells #[.int .u8 0, .int .u8 0] 5)).alloc (.cells #[.slice (some ⟨w3.heap.size, 0, none⟩) 2 2] 142)).cell 0 (v := .int .i64 2) rfl
  have a2 := ((HA3.out.alloc (.cells #[.int .u8 0, .int .u8 0] 5)).alloc (.cells #[.slice (some ⟨w3.heap.size, 0, none⟩) 2 2] 142)).cell 2 (v := .slice none 0 0) rfl
  go_wp2_with fail
  refine (Zac _ _ _ _).mono ?_
  rintro e w4 ⟨rfl, rfl⟩
  go_wp2_with fail
  go_ret2
  refine ⟨⟨_, _, rfl, ?_⟩, (HB3.out.alloc HB3.out.size _).alloc (by have := HB3.out.size; simp; omega) _⟩
  refine ⟨by decide, by decide, fun _ => ⟨w3.heap.size, 0, rfl, (by simp <;> omega), fun i x hi => ?_⟩⟩
  have HBX := ((Bx.new w3 #[.int .u8 0, .int .u8 0] 5).alloc (.cells #[.slice (some ⟨w3.heap.size, 0, none⟩) 2 2] 142))
  match i, hi with
  | 0, hi => simp at hi; subst hi; exact HBX.cell 0 rfl
  | 1, hi => simp at hi; subst hi; exact HBX.cell 1 rfl
  | i + 2, hi => simp at hi
 ·go_enter Tryz.func56, Tryz.ntmps56
  go_wp2_with fail
  have HH := η (show Bx ((w.alloc (.cells #[.int .i64 2, .int .i64 0, .slice none 0 0, .int .i64 0] 28)).alloc (.cells #[.int .i64 1, .int .i64 0, .slice none 0 0] 102)) w.heap.size #[.int .i64 2, .int .i64 0, .slice none 0 0, .int .i64 0] 28 from (Bx.new _ _ _).alloc _)
  have HA := η (show Bx ((w.alloc (.cells #[.int .i64 2, .int .i64 0, .slice none 0 0, .int .i64 0] 28)).alloc (.cells #[.int .i64 1, .int .i64 0, .slice none 0 0] 102)) (w.heap.size + 1) #[.int .i64 1, .int .i64 0, .slice none 0 0] 102 from Jb (by simp))
  have HB1 := η (show Below w.heap.size w ((w.alloc (.cells #[.int .i64 2, .int .i64 0, .slice none 0 0, .int .i64 0] 28)).alloc (.cells #[.int .i64 1, .int .i64 0, .slice none 0 0] 102)) from J8 (J8 J0))
  generalize (w.alloc (.cells #[.int .i64 2, .int .i64 0, .slice none 0 0, .int .i64 0] 28)).alloc (.cells #[.int .i64 1, .int .i64 0, .slice none 0 0] 102) = w1 at *
  have c0 := HH.out.cell 0 (v := .int .i64 2) rfl
  have c1 := HH.out.cell 1 (v := .int .i64 0) rfl
  have c2 := HH.out.cell 2 (v := .slice none 0 0) rfl
  have c3 := HH.out.cell 3 (v := .int .i64 0) rfl
  go_wp2_with fail
  clear c0 c1 c2 c3
  refine (Jw 2 (by decide) _).mono ?_
  rintro e w2 ⟨⟨v, rfl, ho2⟩, B⟩
  obtain ⟨A', c', rfl⟩ := ho2.slice
  have HH2 := η (HH.out.below B ν); have HA2 := η (HA.out.below B ν); have HB2 := η (HB1.out.trans (B.mono HB1.out.size)); clear B ho2 HH HA HB1
  have c0 := HH2.out.cell 0 (v := .int .i64 2) rfl
  have c1 := HH2.out.cell 1 (v := .int .i64 0) rfl
  have c2 := HH2.out.cell 2 (v := .slice none 0 0) rfl
  have c3 := HH2.out.cell 3 (v := .int .i64 0) rfl
  have a0 := HA2.out.cell 0 (v := .int .i64 1) rfl
  have a1 := HA2.out.cell 1 (v := .int .i64 0) rfl
  have a2 := HA2.out.cell 2 (v := .slice none 0 0) rfl
  go_wp2_with fail
  clear c0 c1 c2 c3 a0 a1 a2
  refine (JG 2 (by decide) 1 (by decide) _).mono ?_
  rintro e w3 ⟨rfl, B⟩
  have HH3 := η (HH2.out.below B ν); have HA3 := η (HA2.out.below B ν); have HB3 := η (HB2.out.trans (B.mono HB2.out.size)); clear B HH2 HA2 HB2
  have a0 := HA3.out.cell 0 (v := .int .i64 1) rfl
  have c0 := ((HH3.out.alloc (.cells #[.int .u8 0, .int .u8 1] 5)).alloc (.cells #[.slice (some ⟨w3.heap.size, 0, none⟩) 2 2] 142)).cell 0 (v := .int .i64 2) rfl
  have a2 := ((HA3.out.alloc (.cells #[.int .u8 0, .int .u8 1] 5)).alloc (.cells #[.slice (some ⟨w3.heap.size, 0, none⟩) 2 2] 142)).cell 2 (v := .slice none 0 0) rfl
  go_wp2_with fail
  refine (Zac _ _ _ _).mono ?_
  rintro e w4 ⟨rfl, rfl⟩
  go_wp2_with fail
  go_ret2
  refine ⟨⟨_, _, rfl, ?_⟩, (HB3.out.alloc HB3.out.size _).alloc (by have := HB3.out.size; simp; omega) _⟩
  refine ⟨by decide, by decide, fun _ => ⟨w3.heap.size, 0, rfl, (by simp <;> omega), fun i x hi => ?_⟩⟩
  have HBX := ((Bx.new w3 #[.int .u8 0, .int .u8 1] 5).alloc (.cells #[.slice (some ⟨w3.heap.size, 0, none⟩) 2 2] 142))
  match i, hi with
  | 0, hi => simp at hi; subst hi; exact HBX.cell 0 rfl
  | 1, hi => simp at hi; subst hi; exact HBX.cell 1 rfl
  | i + 2, hi => simp at hi
 ·go_enter Tryz.func56, Tryz.ntmps56
  go_wp2_with fail
  have HH := η (show Bx ((w.alloc (.cells #[.int .i64 2, .int .i64 0, .slice none 0 0, .int .i64 0] 28)).alloc (.cells #[.int .i64 2, .int .i64 0, .slice none 0 0] 102)) w.heap.size #[.int .i64 2, .int .i64 0, .slice none 0 0, .int .i64 0] 28 from (Bx.new _ _ _).alloc _)
  have HA := η (show Bx ((w.alloc (.cells #[.int .i64 2, .int .i64 0, .slice none 0 0, .int .i64 0] 28)).alloc (.cells #[.int .i64 2, .int .i64 0, .slice none 0 0] 102)) (w.heap.size + 1) #[.int .i64 2, .int .i64 0, .slice none 0 0] 102 from Jb (by simp))
  have HB1 := η (show Below w.heap.size w ((w.alloc (.cells #[.int .i64 2, .int .i64 0, .slice none 0 0, .int .i64 0] 28)).alloc (.cells #[.int .i64 2, .int .i64 0, .slice none 0 0] 102)) from J8 (J8 J0))
  generalize (w.alloc (.cells #[.int .i64 2, .int .i64 0, .slice none 0 0, .int .i64 0] 28)).alloc (.cells #[.int .i64 2, .int .i64 0, .slice none 0 0] 102) = w1 at *
  have c0 := HH.out.cell 0 (v := .int .i64 2) rfl
  have c1 := HH.out.cell 1 (v := .int .i64 0) rfl
  have c2 := HH.out.cell 2 (v := .slice none 0 0) rfl
  have c3 := HH.out.cell 3 (v := .int .i64 0) rfl
  go_wp2_with fail
  clear c0 c1 c2 c3
  refine (Jw 2 (by decide) _).mono ?_
  rintro e w2 ⟨⟨v, rfl, ho2⟩, B⟩
  obtain ⟨A', c', rfl⟩ := ho2.slice
  have HH2 := η (HH.out.below B ν); have HA2 := η (HA.out.below B ν); have HB2 := η (HB1.out.trans (B.mono HB1.out.size)); clear B ho2 HH HA HB1
  have c0 := HH2.out.cell 0 (v := .int .i64 2) rfl
  have c1 := HH2.out.cell 1 (v := .int .i64 0) rfl
  have c2 := HH2.out.cell 2 (v := .slice none 0 0) rfl
  have c3 := HH2.out.cell 3 (v := .int .i64 0) rfl
  have a0 := HA2.out.cell 0 (v := .int .i64 2) rfl
  have a1 := HA2.out.cell 1 (v := .int .i64 0) rfl
  have a2 := HA2.out.cell 2 (v := .slice none 0 0) rfl
  go_wp2_with fail
  clear c0 c1 c2 c3 a0 a1 a2
  refine (JG 2 (by decide) 2 (by decide) _).mono ?_
  rintro e w3 ⟨rfl, B⟩
  have HH3 := η (HH2.out.below B ν); have HA3 := η (HA2.out.below B ν); have HB3 := η (HB2.out.trans (B.mono HB2.out.size)); clear B HH2 HA2 HB2
  have a0 := HA3.out.cell 0 (v := .int .i64 2) rfl
  have c0 := ((HH3.out.alloc (.cells #[.int .u8 0, .int .u8 2] 5)).alloc (.cells #[.slice (some ⟨w3.heap.size, 0, none⟩) 2 2] 142)).cell 0 (v := .int .i64 2) rfl
  have a2 := ((HA3.out.alloc (.cells #[.int .u8 0, .int .u8 2] 5)).alloc (.cells #[.slice (some ⟨w3.heap.size, 0, none⟩) 2 2] 142)).cell 2 (v := .slice none 0 0) rfl
  go_wp2_with fail
  refine (Zac _ _ _ _).mono ?_
  rintro e w4 ⟨rfl, rfl⟩
  go_wp2_with fail
  go_ret2
  refine ⟨⟨_, _, rfl, ?_⟩, (HB3.out.alloc HB3.out.size _).alloc (by have := HB3.out.size; simp; omega) _⟩
  refine ⟨by decide, by decide, fun _ => ⟨w3.heap.size, 0, rfl, (by simp <;> omega), fun i x hi => ?_⟩⟩
  have HBX := ((Bx.new w3 #[.int .u8 0, .int .u8 2] 5).alloc (.cells #[.slice (some ⟨w3.heap.size, 0, none⟩) 2 2] 142))
  match i, hi with
  | 0, hi => simp at hi; subst hi; exact HBX.cell 0 rfl
  | 1, hi => simp at hi; subst hi; exact HBX.cell 1 rfl
  | i + 2, hi => simp at hi
set_option maxRecDepth 100000 in
theorem Zev (Q : Option Addr) (qc pb c : Nat) (f g : Nat → Int) (w : World) (hT : TabM w) (hp : Pts w (some ⟨pb, 0, none⟩) 3 c f g) :
  Calls Tryz.prog 55 #[.pointer none, .agg #[.int .i64 1, .int .i64 0, .slice none 0 0, .int .i64 0, .slice none 0 0, .slice (some ⟨pb, 0, none⟩) 3 c, .slice Q 0 qc]] w fun e w' => e = .returned (.tuple #[.agg #[.int .i64 (sg (det (f 0) (g 0) (f 1) (g 1) (f 2) (g 2)) + 1), .int .i64 0, .slice none 0 0], .int .i64 0]) ∧ Below w.heap.size w w' := by
 have HB0 := η (Below.refl w.heap.size w); have FT := η hT; have FP := η hp; clear hT hp
 go_enter Tryz.func55, Tryz.ntmps55
 go_wp2_with fail
 have B : Below w.heap.size w ((w.alloc (.cells #[.int .i64 1, .int .i64 0, .slice none 0 0, .int .i64 0, .slice none 0 0, .slice (some ⟨pb, 0, none⟩) 3 c, .slice Q 0 qc] 99)).alloc (.cells #[.int .i64 0, .int .i64 0, .slice none 0 0] 102)) := ((HB0.out.alloc HB0.out.size _).alloc (HB0.out.alloc HB0.out.size _).size _)
 have C : Below w.heap.size w ((w.alloc (.cells #[.int .i64 1, .int .i64 0, .slice none 0 0, .int .i64 0, .slice none 0 0, .slice (some ⟨pb, 0, none⟩) 3 c, .slice Q 0 qc] 99)).alloc (.cells #[.int .i64 0, .int .i64 0, .slice none 0 0] 102)) := (((Below.refl w.heap.size w).alloc ν _).alloc (by simp; try omega) _)
 have X0 : Bx ((w.alloc (.cells #[.int .i64 1, .int .i64 0, .slice none 0 0, .int .i64 0, .slice none 0 0, .slice (some ⟨pb, 0, none⟩) 3 c, .slice Q 0 qc] 99)).alloc (.cells #[.int .i64 0, .int .i64 0, .slice none 0 0] 102)) (w.heap.size) #[.int .i64 1, .int .i64 0, .slice none 0 0, .int .i64 0, .slice none 0 0, .slice (some ⟨pb, 0, none⟩) 3 c, .slice Q 0 qc] 99 := by simpa using ((Bx.new w #[.int .i64 1, .int .i64 0, .slice none 0 0, .int .i64 0, .slice none 0 0, .slice (some ⟨pb, 0, none⟩) 3 c, .slice Q 0 qc] 99).alloc _)
 have X1 : Bx ((w.alloc (.cells #[.int .i64 1, .int .i64 0, .slice none 0 0, .int .i64 0, .slice none 0 0, .slice (some ⟨pb, 0, none⟩) 3 c, .slice Q 0 qc] 99)).alloc (.cells #[.int .i64 0, .int .i64 0, .slice none 0 0] 102)) (w.heap.size + 1) #[.int .i64 0, .int .i64 0, .slice none 0 0] 102 := by simpa using (Bx.new (w.alloc (.cells #[.int .i64 1, .int .i64 0, .slice none 0 0, .int .i64 0, .slice none 0 0, .slice (some ⟨pb, 0, none⟩) 3 c, .slice Q 0 qc] 99)) #[.int .i64 0, .int .i64 0, .slice none 0 0] 102)
 have FT_1 := η (FT.out.below C ν)
 have FP_1 := η (FP.out.below C ν)
 have HB1 := η B
 have FR_1 := η X0
 have FZ_1 := η X1
 clear B C X0 X1 HB0 FT FP
 generalize ((w.alloc (.cells #[.int .i64 1, .int .i64 0, .slice none 0 0, .int .i64 0, .slice none 0 0, .slice (some ⟨pb, 0, none⟩) 3 c, .slice Q 0 qc] 99)).alloc (.cells #[.int .i64 0, .int .i64 0, .slice none 0 0] 102)) = w1 at *
 have vR0 := FR_1.out.cell 0 (v := .int .i64 1) rfl
 have vR1 := FR_1.out.cell 1 (v := .int .i64 0) rfl
 have vR2 := FR_1.out.cell 2 (v := .slice none 0 0) rfl
 have vR3 := FR_1.out.cell 3 (v := .int .i64 0) rfl
 have vR4 := FR_1.out.cell 4 (v := .slice none 0 0) rfl
 have vR5 := FR_1.out.cell 5 (v := .slice (some ⟨pb, 0, none⟩) 3 c) rfl
 have vR6 := FR_1.out.cell 6 (v := .slice Q 0 qc) rfl
 go_wp2_with fail
 refine (ZbI 1 (by decide) (some ⟨pb, 0, none⟩) c f g Q qc _ FP_1.out).mono ?_
 rintro e w2 ⟨⟨v, rfl⟩, B⟩
 clear vR0 vR1 vR2 vR3 vR4 vR5 vR6
 have HB2 := η (HB1.out.trans (B.mono HB1.out.size))
 have FT_2 := η (FT_1.out.below B ν)
 have FP_2 := η (FP_1.out.below B ν)
 have FR_2 := η (FR_1.out.below B ν)
 have FZ_2 := η (FZ_1.out.below B ν)
 clear B  HB1 FT_1 FP_1 FR_1 FZ_1
 have vR0 := FR_2.out.cell 0 (v := .int .i64 1) rfl
 have vR1 := FR_2.out.cell 1 (v := .int .i64 0) rfl
 have vR2 := FR_2.out.cell 2 (v := .slice none 0 0) rfl
 have vR3 := FR_2.out.cell 3 (v := .int .i64 0) rfl
 have vR4 := FR_2.out.cell 4 (v := .slice none 0 0) rfl
 have vR5 := FR_2.out.cell 5 (v := .slice (some ⟨pb, 0, none⟩) 3 c) rfl
 have vR6 := FR_2.out.cell 6 (v := .slice Q 0 qc) rfl
 go_wp2_with fail
 refine (ZdL Q qc pb c f g _ FT_2.out FP_2.out).mono ?_
 rintro e w3 ⟨rfl, B⟩
 clear vR0 vR1 vR2 vR3 vR4 vR5 vR6
 have HB3 := η (HB2.out.trans (B.mono HB2.out.size))
 have FT_3 := η (FT_2.out.below B ν)
 have FP_3 := η (FP_2.out.below B ν)
 have FR_3 := η (FR_2.out.below B ν)
 have FZ_3 := η (FZ_2.out.below B ν)
 clear B  HB2 FT_2 FP_2 FR_2 FZ_2
 have z0 := FZ_3.out.cell 0 (v := .int .i64 0) rfl; have z1 := FZ_3.out.cell 1 (v := .int .i64 0) rfl; have z2 := FZ_3.out.cell 2 (v := .slice none 0 0) rfl; have y0 := FZ_3.out.free 0; have y1 := FZ_3.out.free 1; have y2 := FZ_3.out.free 2
 go_wp2_with fail
 clear z0 z1 z2 y0 y1 y2
 have HZ := η (((FZ_3.out.set 0 (.int .i64 (sg (det (f 0) (g 0) (f 1) (g 1) (f 2) (g 2)) + 1))).set 1 (.int .i64 0)).set 2 (.slice none 0 0))
 have HBE := η (((HB3.out.setCell (p := ⟨w.heap.size + 1, 0, none⟩) (by show w.heap.size ≤ w.heap.size + 1; omega) (.int .i64 (sg (det (f 0) (g 0) (f 1) (g 1) (f 2) (g 2)) + 1))).setCell (p := ⟨w.heap.size + 1, 1, none⟩) (by show w.heap.size ≤ w.heap.size + 1; omega) (.int .i64 0)).setCell (p := ⟨w.heap.size + 1, 2, none⟩) (by show w.heap.size ≤ w.heap.size + 1; omega) (.slice none 0 0))
 generalize (((w3.setCell ⟨w.heap.size + 1, 0, none⟩ (.int .i64 (sg (det (f 0) (g 0) (f 1) (g 1) (f 2) (g 2)) + 1))).setCell ⟨w.heap.size + 1, 1, none⟩ (.int .i64 0)).setCell ⟨w.heap.size + 1, 2, none⟩ (.slice none 0 0)) = wz at *
 have q0 := HZ.out.cell 0 (v := .int .i64 (sg (det (f 0) (g 0) (f 1) (g 1) (f 2) (g 2)) + 1)) rfl
 have q1 := HZ.out.cell 1 (v := .int .i64 0) rfl
 have q2 := HZ.out.cell 2 (v := .slice none 0 0) rfl
 refine bodyPost_ret (v := .tuple #[.agg #[.int .i64 (sg (det (f 0) (g 0) (f 1) (g 1) (f 2) (g 2)) + 1), .int .i64 0, .slice none 0 0], .int .i64 0]) (by simp [results, Tryz.results55, go_sem, q0, q1, q2]) rfl ⟨rfl, HBE.out⟩

theorem ZiP : (Tryz.prog.info? 23).map (fun i => (i.zero, i.size, i.bytes)) = some (some (.agg #[.int .i64 0, .int .i64 0]), 2, 16) := by kernel_rfl
set_option maxRecDepth 100000 in
theorem Zcj (br n : Nat) (hn : n ≤ 10000) (f g : Nat → Int) (hi : ∀ i, i < n → IsI (f i) ∧ IsI (g i)) (l : List Int) (w : World) (hr : Rd w br (ptsB f g n ++ l)) :
  Calls Tryz.prog 79 #[.int .i64 n, .func (.func 81) #[.pointer (some ⟨br, 0, none⟩)] #[]] w fun e w' => (∃ b, e = .returned (.slice (some ⟨b, 0, none⟩) n n) ∧ w.heap.size ≤ b ∧ Pts w' (some ⟨b, 0, none⟩) n n f g ∧ (0 < n → ∃ cur, Bx w' b cur 23)) ∧ Rd w' br l ∧ w.grownBy w' (some br) := by
 obtain ⟨i0, hi0, hz0, hz1, hz2⟩ := info_parts ZiP
 have HR := η hr; have HI := η hi; have HN := η hn; have HLT := η hr.lt; clear hr hi hn
 go_enter Tryz.func79, Tryz.ntmps79
 go_wp2_with (at_make; refine wpList_make_full _ rfl _ _ 29 rfl w.heap.size 23 i0 _ 2 Tryz.underlying29 hi0 hz0 hz1 .i64 .i64 (n : Int) (n : Int) n rfl rfl rfl rfl ?b1 ?b2 ?b3 ?_)
 case b1 => rw [hz2]; have := HN.out; omega
 case b2 => have := HN.out; unfold maxLen; omega
 case b3 => exact Nat.le_refl _
 intro w1 hown hg
 have HG1 := η (show w.grownBy w1 (some br) from ⟨hg.os, hg.tape, hg.output, hg.size, fun k hk _ => hg.block k hk (by simp)⟩)
 have HO1 := η hown
 have HR1 := η (show Rd w1 br (ptsF f g 0 n ++ l) from by
  have h := HR.out; rw [ZiG] at h
  exact h.below (B := w.heap.size) ⟨hg.os, hg.tape, hg.output, hg.size, fun k hk => hg.block k hk (by simp)⟩ ν)
 clear hown hg HR
 have HBL := η (show 0 < n → ∃ cur, Bx w1 w.heap.size cur 23 ∧ cur.size = n * 2 ∧ NoB cur from fun h => ⟨_, Zg6 HO1.out h, size_madeCells _ _, ZeV (fun u hu x => by simp [Value.cells] at hu; rw [hu]; simp) (by decide) _⟩)
 clear HO1
 go_wp2_with fail
 go_loopw [11] (fun ir wr => ∃ k : Nat, k ≤ n ∧ ir = .int .i64 (k : Int) ∧ (0 < n → ∃ cur, Bx wr w.heap.size cur 23 ∧ RowE cur 2 (n * 2) k (ptE f g) ∧ NoB cur) ∧ Rd wr br (ptsF f g k (n - k) ++ l) ∧ w.grownBy wr (some br)) (fun i _ => n - (intOf i).toNat)
 case atStart => exact ⟨0, Nat.zero_le _, rfl, fun h => by obtain ⟨cur, h1, h2, h3⟩ := HBL.out h; exact ⟨cur, h1, ⟨h2, fun i hi => absurd hi (Nat.not_lt_zero _)⟩, h3⟩, HR1.out, HG1.out⟩
 case round =>
  obtain ⟨k, hk, rfl, hrow, hrd, hg⟩ := hrel
  have HRW := η hrow; have HRD := η hrd; have HG := η hg; clear hrow hrd hg
  by_cases hlt : k < n
  ·have HRD2 := η (show Rd wr br (ptB (f k) (g k) ++ (ptsF f g (k + 1) (n - (k + 1)) ++ l)) from by have := HRD.out; rw [Zh3 f g hlt, List.append_assoc] at this; exact this)
   obtain ⟨cur, hbx, hre, hnb⟩ := HRW.out (by omega)
   have HBX := η hbx; have HRE := η hre; have HNB := η hnb; clear hbx hre hnb HRD HRW HBL HR1 HG1
   have HNE := η (show w.heap.size ≠ br from by have := HLT.out; omega)
   have HNN := HN.out
   have hms := η (show n - (intOf (.int .i64 ((k : Int) + 1))).toNat < n - (intOf (.int .i64 (k : Int))).toNat from by simp [intOf]; omega)
   have w1_ : wrap64 ((k : Int) + 1) = (k : Int) + 1 := by rw [← IntWalk.i64_left, IntKind.wrap_i64]; omega
   have w2_ : IntKind.i64.wrap ((k : Int) + 1) = (k : Int) + 1 := by rw [IntKind.wrap_i64]; omega
   have HNN2 := η HNN; clear HNN
   go_wp2_with fail
   refine (Zcd br (f k) (g k) (HI.out k hlt).1 (HI.out k hlt).2 _ _ HRD2.out).mono ?_
   rintro e w2 ⟨rfl, h2, g2⟩
   have HR2 := η h2; have HB2 := η (JD HBX.out HNE.out g2); have HG2 := η (HG.out.trans g2); clear h2 g2 HBX HG HRD2
   obtain ⟨v0, hv0⟩ := HRE.out.some (i := k * 2) (by omega)
   obtain ⟨v1, hv1⟩ := HRE.out.some (i := k * 2 + 1) (by omega)
   have c0 := HB2.out.cell (k * 2) (v := v0) hv0
   have c1 := HB2.out.cell (k * 2 + 1) (v := v1) hv1
   have z0 := HB2.out.free (k * 2)
   have z1 := HB2.out.free (k * 2 + 1)
   clear hv0 hv1
   go_wp2_with fail
   clear c0 c1 z0 z1
   have HB3 := η (show Bx ((w2.setCell ⟨w.heap.size, k * 2, none⟩ (.int .i64 (f k))).setCell ⟨w.heap.size, k * 2 + 1, none⟩ (.int .i64 (g k))) w.heap.size (setRow cur (k * 2) [.int .i64 (f k), .int .i64 (g k)]) 23 from (HB2.out.set (k * 2) _).set (k * 2 + 1) _)
   have HRE3 := η (HRE.out.snoc (by omega) [.int .i64 (f k), .int .i64 (g k)] rfl (fun j hj => by match j, hj with | 0, _ => rfl | 1, _ => rfl))
   have HG3 := η (Zaj (i := k * 2 + 1) (v := .int .i64 (g k)) (Zaj (i := k * 2) (v := .int .i64 (f k)) HG2.out (Nat.le_refl w.heap.size)) (Nat.le_refl w.heap.size))
   have HR3 := η (show Rd ((w2.setCell ⟨w.heap.size, k * 2, none⟩ (.int .i64 (f k))).setCell ⟨w.heap.size, k * 2 + 1, none⟩ (.int .i64 (g k))) br (ptsF f g (k + 1) (n - (k + 1)) ++ l) from by
    obtain ⟨A, c, h1, h2, h3⟩ := HR2.out
    exact ⟨A, c, (h1.other _ (fun e => HNE.out e.symm)).other _ (fun e => HNE.out e.symm), JT (JT h2 HB2.out HNB.out (JK _ _ _ _)) (HB2.out.set (k * 2) _) (ZbB HNB.out (by simp) _) (JK _ _ _ _), h3⟩)
   have HNB3 := η (ZbN [.int .i64 (f k), .int .i64 (g k)] (k * 2) HNB.out (by simp))
   clear HB2 HR2 HG2 HRE
   go_roundw
   case rel => exact ⟨k + 1, hlt, by go_num, fun _ => ⟨_, HB3.out, HRE3.out, HNB3.out⟩, HR3.out, HG3.out⟩
   case measure => exact hms.out
  ·obtain rfl : k = n := by omega
   have HRD2 := η (show Rd wr br l from by have := HRD.out; rw [Nat.sub_self] at this; exact this)
   go_wp2_with fail
   go_ret
   refine ⟨⟨_, rfl, Nat.le_refl _, ?_, fun h0 => by obtain ⟨cur, h1, _⟩ := HRW.out h0; exact ⟨cur, h1⟩⟩, HRD2.out, HG.out⟩
   by_cases h0 : 0 < k
   ·obtain ⟨cur, h1, h2, _⟩ := HRW.out h0
    exact Zjs h1 h2 (by have := HN.out; unfold maxLen; omega) HI.out
   ·exact ⟨Nat.le_refl _, by have := HN.out; unfold maxLen; omega, HI.out, fun h => absurd h h0⟩
theorem Zff (br n : Nat) (hn : n ≤ 10000) (f g : Nat → Int) (hi : ∀ i, i < n → IsI (f i) ∧ IsI (g i)) (l : List Int) (w : World) (hr : Rd w br (ptsB f g n ++ l)) :
  Calls Tryz.prog 79 #[.int .i64 n, .func (.func 81) #[.pointer (some ⟨br, 0, none⟩)] #[]] w fun e w' => (∃ b, e = .returned (.slice (some ⟨b, 0, none⟩) n n) ∧ w.heap.size ≤ b ∧ Pts w' (some ⟨b, 0, none⟩) n n f g) ∧ Rd w' br l ∧ w.grownBy w' (some br) :=
 (Zcj br n hn f g hi l w hr).mono fun e w' ⟨⟨b, h1, h2, h3, _⟩, h4, h5⟩ => ⟨⟨b, h1, h2, h3⟩, h4, h5⟩
theorem Pts.setFar {w : World} {B off n c k i : Nat} {v : Value} {f g : Nat → Int} (h : Pts w (Option.some ⟨B, off, none⟩) n c f g) (hne : B ≠ k) : Pts (w.setCell ⟨k, i, none⟩ v) (Option.some ⟨B, off, none⟩) n c f g :=
 ⟨h.cap, h.max, h.isi, fun hn => by
  obtain ⟨b, o, e, hlt, hc⟩ := h.at_ hn
  obtain ⟨rfl, rfl⟩ : B = b ∧ off = o := by simpa using e
  exact ⟨B, off, rfl, by simpa [World.setCell] using hlt, fun j hj => ⟨Jc (hc j hj).1 hne, Jc (hc j hj).2 hne⟩⟩⟩
set_option maxRecDepth 100000 in
theorem ZdM (op : Int) (ho : op = 1 ∨ op = 2) (A : Option Addr) (c : Nat) (f g : Nat → Int) (hi : ∀ i, i < (op + 2).toNat → IsI (f i) ∧ IsI (g i)) (w : World) (hT : TabF w) (hb : By w A c (op :: ptsB f g (op + 2).toNat)) :
  Calls Tryz.prog 54 #[.slice A (16 * (op + 2).toNat + 1) c] w fun e w' => (∃ (B Q : Nat), e = .returned (.tuple #[.agg #[.int .i64 op, .int .i64 0, .slice none 0 0, .int .i64 0, .slice none 0 0, .slice (some ⟨B, 0, none⟩) (op + 2).toNat (op + 2).toNat, .slice (some ⟨Q, 0, none⟩) 0 0], .int .i64 0]) ∧ Pts w' (some ⟨B, 0, none⟩) (op + 2).toNat (op + 2).toNat f g) ∧ Below w.heap.size w w' := by
 rcases ho with rfl | rfl
 ·have HI := η (show ∀ i, i < 3 → IsI (f i) ∧ IsI (g i) from hi); clear hi
  have HBY := η (show By w A c (1 :: ptsB f g 3) from hb); have HT := η hT; clear hb hT
  rw [show ((1 : Int) + 2).toNat = 3 from rfl]
  have hln : (ptsB f g 3).length = 48 := JP f g 3
  obtain ⟨b, off, rfl, -, -⟩ := HBY.out.at_ (by simp)
  have hcp := HBY.out.cap
  simp only [List.length_cons, hln] at hcp
  have hmx := HBY.out.max
  unfold maxLen at hmx
  have hc1 : ¬ (c = 1) := by omega
  have HLN := η hln; clear hln
  go_enter Tryz.func54, Tryz.ntmps54
  go_wp2_with fail
  have HZ := η (Bx.new w #[.int .i64 0, .int .i64 0, .slice none 0 0, .int .i64 0, .slice none 0 0, .slice none 0 0, .slice none 0 0] 99)
  have HBY1 := η (HBY.out.alloc (.cells #[.int .i64 0, .int .i64 0, .slice none 0 0, .int .i64 0, .slice none 0 0, .slice none 0 0, .slice none 0 0] 99)); have HT1 := η (HT.out.alloc (.cells #[.int .i64 0, .int .i64 0, .slice none 0 0, .int .i64 0, .slice none 0 0, .slice none 0 0, .slice none 0 0] 99))
  have HB1 := η (show Below w.heap.size w (w.alloc (.cells #[.int .i64 0, .int .i64 0, .slice none 0 0, .int .i64 0, .slice none 0 0, .slice none 0 0, .slice none 0 0] 99)) from J8 J0)
  generalize w.alloc (.cells #[.int .i64 0, .int .i64 0, .slice none 0 0, .int .i64 0, .slice none 0 0, .slice none 0 0, .slice none 0 0] 99) = w1 at *
  clear HBY HT
  have hcl := ZaX (some ⟨b, off, none⟩) c 1 (by decide) (ptsB f g 3) w1 HT1.out HBY1.out (by rw [HLN.out]; rfl)
  have hpa := fun w0 => Za7 (some ⟨b, off, none⟩) c 1 (by decide) (ptsB f g 3) w0
  rw [HLN.out] at hcl hpa
  have HCL := η hcl; have HPA := η hpa; clear hcl hpa
  refine HCL.out.mono ?_
  rintro e w2 ⟨rfl, B⟩
  have HBY2 := η (HBY1.out.below B ν); have HT2 := η (HT1.out.below B ν); have HZ2 := η (HZ.out.below B ν); have HB2 := η (HB1.out.trans (B.mono HB1.out.size)); clear B HBY1 HT1 HZ HB1 HCL
  go_wp2_with fail
  refine (HPA.out _ HBY2.out).mono ?_
  rintro e w3 ⟨rfl, B⟩
  have HBY3 := η (HBY2.out.below B ν); have HZ3 := η (HZ2.out.below B ν); have HB3 := η (HB2.out.trans (B.mono HB2.out.size)); clear B HBY2 HT2 HZ2 HB2 HPA
  go_wp2_with fail
  have HR := η (show Rd (((w3.alloc (.cells #[.int .i64 1, .int .i64 0, .slice none 0 0, .int .i64 0] 28)).alloc (.cells #[.int .i64 1, .int .i64 0, .slice none 0 0, .int .i64 0, .slice none 0 0, .slice none 0 0, .slice none 0 0] 99)).alloc (.cells #[.slice (some ⟨b, off + 1, none⟩) 48 (c - 1)] 131)) (w3.heap.size + 1 + 1) (ptsB f g 3) from by
   have h1 := HBY3.out.tail
   rw [if_neg hc1] at h1
   refine ⟨some ⟨b, off + 1, none⟩, c - 1, ?_, ((h1.alloc _).alloc _).alloc _, fun a ha => by cases ha; obtain ⟨b', o', e, hlt, _⟩ := HBY3.out.at_ (by simp); cases e; show b < w3.heap.size + 1 + 1; omega⟩
   rw [HLN.out]; exact Jb (by simp))
  have HH := η (show Bx (((w3.alloc (.cells #[.int .i64 1, .int .i64 0, .slice none 0 0, .int .i64 0] 28)).alloc (.cells #[.int .i64 1, .int .i64 0, .slice none 0 0, .int .i64 0, .slice none 0 0, .slice none 0 0, .slice none 0 0] 99)).alloc (.cells #[.slice (some ⟨b, off + 1, none⟩) 48 (c - 1)] 131)) w3.heap.size #[.int .i64 1, .int .i64 0, .slice none 0 0, .int .i64 0] 28 from ((Bx.new _ _ _).alloc _).alloc _)
  have HQ := η (show Bx (((w3.alloc (.cells #[.int .i64 1, .int .i64 0, .slice none 0 0, .int .i64 0] 28)).alloc (.cells #[.int .i64 1, .int .i64 0, .slice none 0 0, .int .i64 0, .slice none 0 0, .slice none 0 0, .slice none 0 0] 99)).alloc (.cells #[.slice (some ⟨b, off + 1, none⟩) 48 (c - 1)] 131)) (w3.heap.size + 1) #[.int .i64 1, .int .i64 0, .slice none 0 0, .int .i64 0, .slice none 0 0, .slice none 0 0, .slice none 0 0] 99 from (Jb (by simp)).alloc _)
  have HZ6 := η (show Bx (((w3.alloc (.cells #[.int .i64 1, .int .i64 0, .slice none 0 0, .int .i64 0] 28)).alloc (.cells #[.int .i64 1, .int .i64 0, .slice none 0 0, .int .i64 0, .slice none 0 0, .slice none 0 0, .slice none 0 0] 99)).alloc (.cells #[.slice (some ⟨b, off + 1, none⟩) 48 (c - 1)] 131)) w.heap.size #[.int .i64 0, .int .i64 0, .slice none 0 0, .int .i64 0, .slice none 0 0, .slice none 0 0, .slice none 0 0] 99 from ((HZ3.out.alloc _).alloc _).alloc _)
  have HB6 := η (show Below w.heap.size w (((w3.alloc (.cells #[.int .i64 1, .int .i64 0, .slice none 0 0, .int .i64 0] 28)).alloc (.cells #[.int .i64 1, .int .i64 0, .slice none 0 0, .int .i64 0, .slice none 0 0, .slice none 0 0, .slice none 0 0] 99)).alloc (.cells #[.slice (some ⟨b, off + 1, none⟩) 48 (c - 1)] 131)) from ((HB3.out.alloc HB3.out.size _).alloc (by have := HB3.out.size; simp; omega) _).alloc (by have := HB3.out.size; simp; omega) _)
  have HLZ := η (show w.heap.size < w3.heap.size from HZ3.out.lt)
  generalize ((w3.alloc (.cells #[.int .i64 1, .int .i64 0, .slice none 0 0, .int .i64 0] 28)).alloc (.cells #[.int .i64 1, .int .i64 0, .slice none 0 0, .int .i64 0, .slice none 0 0, .slice none 0 0, .slice none 0 0] 99)).alloc (.cells #[.slice (some ⟨b, off + 1, none⟩) 48 (c - 1)] 131) = w6 at *
  clear HBY3 HZ3 HB3
  generalize w3.heap.size = hb at *
  refine wp_loop_rounds 1 ?_
  rw [rounds_succ]
  have c0 := HH.out.cell 0 (v := .int .i64 1) rfl
  have c1 := HH.out.cell 1 (v := .int .i64 0) rfl
  have c2 := HH.out.cell 2 (v := .slice none 0 0) rfl
  have c3 := HH.out.cell 3 (v := .int .i64 0) rfl
  go_wp2_with fail
  clear c0 c1 c2 c3
  refine (Za9 1 (by decide) _).mono ?_
  rintro e w7 ⟨rfl, B⟩
  have HR7 := η (HR.out.below B ν); have HQ7 := η (HQ.out.below B ν); have HZ7 := η (HZ6.out.below B ν); have HB7 := η (HB6.out.trans (B.mono HB6.out.size)); clear B HR HQ HZ6 HB6 HH
  rw [show (1 : Int) + 2 = 3 from rfl]
  go_wp2_with fail
  refine (Zff (hb + 1 + 1) 3 (by decide) f g HI.out [] _ (by rw [List.append_nil]; exact HR7.out)).mono ?_
  rintro e w8 ⟨⟨B, rfl, hBl, hP⟩, hR, g8⟩
  have HP8 := η hP; have HR8 := η hR; have HQ8 := η (JD HQ7.out (by omega) g8); have HZ8 := η (JD HZ7.out (by have := HLZ.out; omega) g8); have HB8 := η (ZaI HB7.out (by have := HLZ.out; omega) HB7.out.size g8)
  have HBQ := η (show B ≠ hb + 1 from by have := HQ7.out.lt; omega)
  have HBZ := η (show B ≠ w.heap.size from by have := HZ7.out.lt; omega)
  clear hP hR g8 HR7 HQ7 HZ7 HB7 hBl
  have c5 := HQ8.out.cell 5 (v := .slice none 0 0) rfl
  have z5 := HQ8.out.free 5
  go_wp2_with fail
  clear c5 z5
  have HQ9 := η (HQ8.out.set 5 (.slice (some ⟨B, 0, none⟩) 3 3)); have HP9 := η (HP8.out.setFar (k := hb + 1) (i := 5) (v := .slice (some ⟨B, 0, none⟩) 3 3) HBQ.out); have HZ9 := η (HZ8.out.other (a := ⟨hb + 1, 5, none⟩) (.slice (some ⟨B, 0, none⟩) 3 3) (by have := HLZ.out; show w.heap.size ≠ hb + 1; omega)); have HB9 := η (HB8.out.setCell (p := ⟨hb + 1, 5, none⟩) (by have := HLZ.out; show w.heap.size ≤ hb + 1; omega) (.slice (some ⟨B, 0, none⟩) 3 3))
  generalize w8.setCell ⟨hb + 1, 5, none⟩ (.slice (some ⟨B, 0, none⟩) 3 3) = w9 at *
  clear HQ8 HP8 HZ8 HB8 HR8
  refine (Ze4 _ _).mono ?_
  rintro e w10 ⟨rfl, B10⟩
  have HQ10 := η (HQ9.out.below B10 ν); have HP10 := η (HP9.out.below B10 ν); have HZ10 := η (HZ9.out.below B10 ν); have HB10 := η (HB9.out.trans (B10.mono HB9.out.size)); clear B10 HQ9 HP9 HZ9 HB9
  have c6 := HQ10.out.cell 6 (v := .slice none 0 0) rfl
  have z6 := HQ10.out.free 6
  have HQ11 := η (HQ10.out.set 6 (.slice (some ⟨w9.heap.size, 0, none⟩) 0 0)); have HZ11 := η (HZ10.out.other (a := ⟨hb + 1, 6, none⟩) (.slice (some ⟨w9.heap.size, 0, none⟩) 0 0) (by have := HLZ.out; show w.heap.size ≠ hb + 1; omega))
  have d0 := HQ11.out.cell 0 (v := .int .i64 1) rfl
  have d1 := HQ11.out.cell 1 (v := .int .i64 0) rfl
  have d2 := HQ11.out.cell 2 (v := .slice none 0 0) rfl
  have d3 := HQ11.out.cell 3 (v := .int .i64 0) rfl
  have d4 := HQ11.out.cell 4 (v := .slice none 0 0) rfl
  have d5 := HQ11.out.cell 5 (v := .slice (some ⟨B, 0, none⟩) 3 3) rfl
  have d6 := HQ11.out.cell 6 (v := .slice (some ⟨w9.heap.size, 0, none⟩) 0 0) rfl
  have e0 := HZ11.out.cell 0 (v := .int .i64 0) rfl
  have y0 := HZ11.out.free 0
  have e1 := HZ11.out.cell 1 (v := .int .i64 0) rfl
  have y1 := HZ11.out.free 1
  have e2 := HZ11.out.cell 2 (v := .slice none 0 0) rfl
  have y2 := HZ11.out.free 2
  have e3 := HZ11.out.cell 3 (v := .int .i64 0) rfl
  have y3 := HZ11.out.free 3
  have e4 := HZ11.out.cell 4 (v := .slice none 0 0) rfl
  have y4 := HZ11.out.free 4
  have e5 := HZ11.out.cell 5 (v := .slice none 0 0) rfl
  have y5 := HZ11.out.free 5
  have e6 := HZ11.out.cell 6 (v := .slice none 0 0) rfl
  have y6 := HZ11.out.free 6
  go_wp2_with fail
  clear c6 z6 d0 e0 y0 d1 e1 y1 d2 e2 y2 d3 e3 y3 d4 e4 y4 d5 e5 y5 d6 e6 y6
  have HB12 := η (show Below w.heap.size w ((((((((w10.setCell ⟨hb + 1, 6, none⟩ (.slice (some ⟨w9.heap.size, 0, none⟩) 0 0)).setCell ⟨w.heap.size, 0, none⟩ (.int .i64 1)).setCell ⟨w.heap.size, 1, none⟩ (.int .i64 0)).setCell ⟨w.heap.size, 2, none⟩ (.slice none 0 0)).setCell ⟨w.heap.size, 3, none⟩ (.int .i64 0)).setCell ⟨w.heap.size, 4, none⟩ (.slice none 0 0)).setCell ⟨w.heap.size, 5, none⟩ (.slice (some ⟨B, 0, none⟩) 3 3)).setCell ⟨w.heap.size, 6, none⟩ (.slice (some ⟨w9.heap.size, 0, none⟩) 0 0)) from (((((((HB10.out.setCell (p := ⟨hb + 1, 6, none⟩) (by have := HLZ.out; show w.heap.size ≤ hb + 1; omega) (.slice (some ⟨w9.heap.size, 0, none⟩) 0 0)).setCell (p := ⟨w.heap.size, 0, none⟩) ν (.int .i64 1)).setCell (p := ⟨w.heap.size, 1, none⟩) ν (.int .i64 0)).setCell (p := ⟨w.heap.size, 2, none⟩) ν (.slice none 0 0)).setCell (p := ⟨w.heap.size, 3, none⟩) ν (.int .i64 0)).setCell (p := ⟨w.heap.size, 4, none⟩) ν (.slice none 0 0)).setCell (p := ⟨w.heap.size, 5, none⟩) ν (.slice (some ⟨B, 0, none⟩) 3 3)).setCell (p := ⟨w.heap.size, 6, none⟩) ν (.slice (some ⟨w9.heap.size, 0, none⟩) 0 0))
  have HP12 := η ((((((((HP10.out.setFar (k := hb + 1) (i := 6) (v := .slice (some ⟨w9.heap.size, 0, none⟩) 0 0) HBQ.out).setFar (k := w.heap.size) (i := 0) (v := .int .i64 1) HBZ.out).setFar (k := w.heap.size) (i := 1) (v := .int .i64 0) HBZ.out).setFar (k := w.heap.size) (i := 2) (v := .slice none 0 0) HBZ.out).setFar (k := w.heap.size) (i := 3) (v := .int .i64 0) HBZ.out).setFar (k := w.heap.size) (i := 4) (v := .slice none 0 0) HBZ.out).setFar (k := w.heap.size) (i := 5) (v := .slice (some ⟨B, 0, none⟩) 3 3) HBZ.out).setFar (k := w.heap.size) (i := 6) (v := .slice (some ⟨w9.heap.size, 0, none⟩) 0 0) HBZ.out)
  have HZ12 := η ((((((((HZ11.out).set 0 (.int .i64 1)).set 1 (.int .i64 0)).set 2 (.slice none 0 0)).set 3 (.int .i64 0)).set 4 (.slice none 0 0)).set 5 (.slice (some ⟨B, 0, none⟩) 3 3)).set 6 (.slice (some ⟨w9.heap.size, 0, none⟩) 0 0))
  generalize (((((((w10.setCell ⟨hb + 1, 6, none⟩ (.slice (some ⟨w9.heap.size, 0, none⟩) 0 0)).setCell ⟨w.heap.size, 0, none⟩ (.int .i64 1)).setCell ⟨w.heap.size, 1, none⟩ (.int .i64 0)).setCell ⟨w.heap.size, 2, none⟩ (.slice none 0 0)).setCell ⟨w.heap.size, 3, none⟩ (.int .i64 0)).setCell ⟨w.heap.size, 4, none⟩ (.slice none 0 0)).setCell ⟨w.heap.size, 5, none⟩ (.slice (some ⟨B, 0, none⟩) 3 3)).setCell ⟨w.heap.size, 6, none⟩ (.slice (some ⟨w9.heap.size, 0, none⟩) 0 0) = w12 at *
  have q0 := HZ12.out.cell 0 (v := .int .i64 1) rfl
  have q1 := HZ12.out.cell 1 (v := .int .i64 0) rfl
  have q2 := HZ12.out.cell 2 (v := .slice none 0 0) rfl
  have q3 := HZ12.out.cell 3 (v := .int .i64 0) rfl
  have q4 := HZ12.out.cell 4 (v := .slice none 0 0) rfl
  have q5 := HZ12.out.cell 5 (v := .slice (some ⟨B, 0, none⟩) 3 3) rfl
  have q6 := HZ12.out.cell 6 (v := .slice (some ⟨w9.heap.size, 0, none⟩) 0 0) rfl
  refine bodyPost_ret (v := .tuple #[.agg #[.int .i64 1, .int .i64 0, .slice none 0 0, .int .i64 0, .slice none 0 0, .slice (some ⟨B, 0, none⟩) 3 3, .slice (some ⟨w9.heap.size, 0, none⟩) 0 0], .int .i64 0]) (by simp [results, Tryz.results54, go_sem, q0, q1, q2, q3, q4, q5, q6]) rfl ⟨⟨B, w9.heap.size, rfl, HP12.out⟩, HB12.out⟩
 ·have HI := η (show ∀ i, i < 4 → IsI (f i) ∧ IsI (g i) from hi); clear hi
  have HBY := η (show By w A c (2 :: ptsB f g 4) from hb); have HT := η hT; clear hb hT
  rw [show ((2 : Int) + 2).toNat = 4 from rfl]
  have hln : (ptsB f g 4).length = 64 := JP f g 4
  obtain ⟨b, off, rfl, -, -⟩ := HBY.out.at_ (by simp)
  have hcp := HBY.out.cap
  simp only [List.length_cons, hln] at hcp
  have hmx := HBY.out.max
  unfold maxLen at hmx
  have hc1 : ¬ (c = 1) := by omega
  have HLN := η hln; clear hln
  go_enter Tryz.func54, Tryz.ntmps54
  go_wp2_with fail
  have HZ := η (Bx.new w #[.int .i64 0, .int .i64 0, .slice none 0 0, .int .i64 0, .slice none 0 0, .slice none 0 0, .slice none 0 0] 99)
  have HBY1 := η (HBY.out.alloc (.cells #[.int .i64 0, .int .i64 0, .slice none 0 0, .int .i64 0, .slice none 0 0, .slice none 0 0, .slice none 0 0] 99)); have HT1 := η (HT.out.alloc (.cells #[.int .i64 0, .int .i64 0, .slice none 0 0, .int .i64 0, .slice none 0 0, .slice none 0 0, .slice none 0 0] 99))
  have HB1 := η (show Below w.heap.size w (w.alloc (.cells #[.int .i64 0, .int .i64 0, .slice none 0 0, .int .i64 0, .slice none 0 0, .slice none 0 0, .slice none 0 0] 99)) from J8 J0)
  generalize w.alloc (.cells #[.int .i64 0, .int .i64 0, .slice none 0 0, .int .i64 0, .slice none 0 0, .slice none 0 0, .slice none 0 0] 99) = w1 at *
  clear HBY HT
  have hcl := ZaX (some ⟨b, off, none⟩) c 2 (by decide) (ptsB f g 4) w1 HT1.out HBY1.out (by rw [HLN.out]; rfl)
  have hpa := fun w0 => Za7 (some ⟨b, off, none⟩) c 2 (by decide) (ptsB f g 4) w0
  rw [HLN.out] at hcl hpa
  have HCL := η hcl; have HPA := η hpa; clear hcl hpa
  refine HCL.out.mono ?_
  rintro e w2 ⟨rfl, B⟩
  have HBY2 := η (HBY1.out.below B ν); have HT2 := η (HT1.out.below B ν); have HZ2 := η (HZ.out.below B ν); have HB2 := η (HB1.out.trans (B.mono HB1.out.size)); clear B HBY1 HT1 HZ HB1 HCL
  go_wp2_with fail
  refine (HPA.out _ HBY2.out).mono ?_
  rintro e w3 ⟨rfl, B⟩
  have HBY3 := η (HBY2.out.below B ν); have HZ3 := η (HZ2.out.below B ν); have HB3 := η (HB2.out.trans (B.mono HB2.out.size)); clear B HBY2 HT2 HZ2 HB2 HPA
  go_wp2_with fail
  have HR := η (show Rd (((w3.alloc (.cells #[.int .i64 2, .int .i64 0, .slice none 0 0, .int .i64 0] 28)).alloc (.cells #[.int .i64 2, .int .i64 0, .slice none 0 0, .int .i64 0, .slice none 0 0, .slice none 0 0, .slice none 0 0] 99)).alloc (.cells #[.slice (some ⟨b, off + 1, none⟩) 64 (c - 1)] 131)) (w3.heap.size + 1 + 1) (ptsB f g 4) from by
   have h1 := HBY3.out.tail
   rw [if_neg hc1] at h1
   refine ⟨some ⟨b, off + 1, none⟩, c - 1, ?_, ((h1.alloc _).alloc _).alloc _, fun a ha => by cases ha; obtain ⟨b', o', e, hlt, _⟩ := HBY3.out.at_ (by simp); cases e; show b < w3.heap.size + 1 + 1; omega⟩
   rw [HLN.out]; exact Jb (by simp))
  have HH := η (show Bx (((w3.alloc (.cells #[.int .i64 2, .int .i64 0, .slice none 0 0, .int .i64 0] 28)).alloc (.cells #[.int .i64 2, .int .i64 0, .slice none 0 0, .int .i64 0, .slice none 0 0, .slice none 0 0, .slice none 0 0] 99)).alloc (.cells #[.slice (some ⟨b, off + 1, none⟩) 64 (c - 1)] 131)) w3.heap.size #[.int .i64 2, .int .i64 0, .slice none 0 0, .int .i64 0] 28 from ((Bx.new _ _ _).alloc _).alloc _)
  have HQ := η (show Bx (((w3.alloc (.cells #[.int .i64 2, .int .i64 0, .slice none 0 0, .int .i64 0] 28)).alloc (.cells #[.int .i64 2, .int .i64 0, .slice none 0 0, .int .i64 0, .slice none 0 0, .slice none 0 0, .slice none 0 0] 99)).alloc (.cells #[.slice (some ⟨b, off + 1, none⟩) 64 (c - 1)] 131)) (w3.heap.size + 1) #[.int .i64 2, .int .i64 0, .slice none 0 0, .int .i64 0, .slice none 0 0, .slice none 0 0, .slice none 0 0] 99 from (Jb (by simp)).alloc _)
  have HZ6 := η (show Bx (((w3.alloc (.cells #[.int .i64 2, .int .i64 0, .slice none 0 0, .int .i64 0] 28)).alloc (.cells #[.int .i64 2, .int .i64 0, .slice none 0 0, .int .i64 0, .slice none 0 0, .slice none 0 0, .slice none 0 0] 99)).alloc (.cells #[.slice (some ⟨b, off + 1, none⟩) 64 (c - 1)] 131)) w.heap.size #[.int .i64 0, .int .i64 0, .slice none 0 0, .int .i64 0, .slice none 0 0, .slice none 0 0, .slice none 0 0] 99 from ((HZ3.out.alloc _).alloc _).alloc _)
  have HB6 := η (show Below w.heap.size w (((w3.alloc (.cells #[.int .i64 2, .int .i64 0, .slice none 0 0, .int .i64 0] 28)).alloc (.cells #[.int .i64 2, .int .i64 0, .slice none 0 0, .int .i64 0, .slice none 0 0, .slice none 0 0, .slice none 0 0] 99)).alloc (.cells #[.slice (some ⟨b, off + 1, none⟩) 64 (c - 1)] 131)) from ((HB3.out.alloc HB3.out.size _).alloc (by have := HB3.out.size; simp; omega) _).alloc (by have := HB3.out.size; simp; omega) _)
  have HLZ := η (show w.heap.size < w3.heap.size from HZ3.out.lt)
  generalize ((w3.alloc (.cells #[.int .i64 2, .int .i64 0, .slice none 0 0, .int .i64 0] 28)).alloc (.cells #[.int .i64 2, .int .i64 0, .slice none 0 0, .int .i64 0, .slice none 0 0, .slice none 0 0, .slice none 0 0] 99)).alloc (.cells #[.slice (some ⟨b, off + 1, none⟩) 64 (c - 1)] 131) = w6 at *
  clear HBY3 HZ3 HB3
  generalize w3.heap.size = hb at *
  refine wp_loop_rounds 1 ?_
  rw [rounds_succ]
  have c0 := HH.out.cell 0 (v := .int .i64 2) rfl
  have c1 := HH.out.cell 1 (v := .int .i64 0) rfl
  have c2 := HH.out.cell 2 (v := .slice none 0 0) rfl
  have c3 := HH.out.cell 3 (v := .int .i64 0) rfl
  go_wp2_with fail
  clear c0 c1 c2 c3
  refine (Za9 2 (by decide) _).mono ?_
  rintro e w7 ⟨rfl, B⟩
  have HR7 := η (HR.out.below B ν); have HQ7 := η (HQ.out.below B ν); have HZ7 := η (HZ6.out.below B ν); have HB7 := η (HB6.out.trans (B.mono HB6.out.size)); clear B HR HQ HZ6 HB6 HH
  rw [show (2 : Int) + 2 = 4 from rfl]
  go_wp2_with fail
  refine (Zff (hb + 1 + 1) 4 (by decide) f g HI.out [] _ (by rw [List.append_nil]; exact HR7.out)).mono ?_
  rintro e w8 ⟨⟨B, rfl, hBl, hP⟩, hR, g8⟩
  have HP8 := η hP; have HR8 := η hR; have HQ8 := η (JD HQ7.out (by omega) g8); have HZ8 := η (JD HZ7.out (by have := HLZ.out; omega) g8); have HB8 := η (ZaI HB7.out (by have := HLZ.out; omega) HB7.out.size g8)
  have HBQ := η (show B ≠ hb + 1 from by have := HQ7.out.lt; omega)
  have HBZ := η (show B ≠ w.heap.size from by have := HZ7.out.lt; omega)
  clear hP hR g8 HR7 HQ7 HZ7 HB7 hBl
  have c5 := HQ8.out.cell 5 (v := .slice none 0 0) rfl
  have z5 := HQ8.out.free 5
  go_wp2_with fail
  clear c5 z5
  have HQ9 := η (HQ8.out.set 5 (.slice (some ⟨B, 0, none⟩) 4 4)); have HP9 := η (HP8.out.setFar (k := hb + 1) (i := 5) (v := .slice (some ⟨B, 0, none⟩) 4 4) HBQ.out); have HZ9 := η (HZ8.out.other (a := ⟨hb + 1, 5, none⟩) (.slice (some ⟨B, 0, none⟩) 4 4) (by have := HLZ.out; show w.heap.size ≠ hb + 1; omega)); have HB9 := η (HB8.out.setCell (p := ⟨hb + 1, 5, none⟩) (by have := HLZ.out; show w.heap.size ≤ hb + 1; omega) (.slice (some ⟨B, 0, none⟩) 4 4))
  generalize w8.setCell ⟨hb + 1, 5, none⟩ (.slice (some ⟨B, 0, none⟩) 4 4) = w9 at *
  clear HQ8 HP8 HZ8 HB8 HR8
  refine (Ze4 _ _).mono ?_
  rintro e w10 ⟨rfl, B10⟩
  have HQ10 := η (HQ9.out.below B10 ν); have HP10 := η (HP9.out.below B10 ν); have HZ10 := η (HZ9.out.below B10 ν); have HB10 := η (HB9.out.trans (B10.mono HB9.out.size)); clear B10 HQ9 HP9 HZ9 HB9
  have c6 := HQ10.out.cell 6 (v := .slice none 0 0) rfl
  have z6 := HQ10.out.free 6
  have HQ11 := η (HQ10.out.set 6 (.slice (some ⟨w9.heap.size, 0, none⟩) 0 0)); have HZ11 := η (HZ10.out.other (a := ⟨hb + 1, 6, none⟩) (.slice (some ⟨w9.heap.size, 0, none⟩) 0 0) (by have := HLZ.out; show w.heap.size ≠ hb + 1; omega))
  have d0 := HQ11.out.cell 0 (v := .int .i64 2) rfl
  have d1 := HQ11.out.cell 1 (v := .int .i64 0) rfl
  have d2 := HQ11.out.cell 2 (v := .slice none 0 0) rfl
  have d3 := HQ11.out.cell 3 (v := .int .i64 0) rfl
  have d4 := HQ11.out.cell 4 (v := .slice none 0 0) rfl
  have d5 := HQ11.out.cell 5 (v := .slice (some ⟨B, 0, none⟩) 4 4) rfl
  have d6 := HQ11.out.cell 6 (v := .slice (some ⟨w9.heap.size, 0, none⟩) 0 0) rfl
  have e0 := HZ11.out.cell 0 (v := .int .i64 0) rfl
  have y0 := HZ11.out.free 0
  have e1 := HZ11.out.cell 1 (v := .int .i64 0) rfl
  have y1 := HZ11.out.free 1
  have e2 := HZ11.out.cell 2 (v := .slice none 0 0) rfl
  have y2 := HZ11.out.free 2
  have e3 := HZ11.out.cell 3 (v := .int .i64 0) rfl
  have y3 := HZ11.out.free 3
  have e4 := HZ11.out.cell 4 (v := .slice none 0 0) rfl
  have y4 := HZ11.out.free 4
  have e5 := HZ11.out.cell 5 (v := .slice none 0 0) rfl
  have y5 := HZ11.out.free 5
  have e6 := HZ11.out.cell 6 (v := .slice none 0 0) rfl
  have y6 := HZ11.out.free 6
  go_wp2_with fail
  clear c6 z6 d0 e0 y0 d1 e1 y1 d2 e2 y2 d3 e3 y3 d4 e4 y4 d5 e5 y5 d6 e6 y6
  have HB12 := η (show Below w.heap.size w ((((((((w10.setCell ⟨hb + 1, 6, none⟩ (.slice (some ⟨w9.heap.size, 0, none⟩) 0 0)).setCell ⟨w.heap.size, 0, none⟩ (.int .i64 2)).setCell ⟨w.heap.size, 1, none⟩ (.int .i64 0)).setCell ⟨w.heap.size, 2, none⟩ (.slice none 0 0)).setCell ⟨w.heap.size, 3, none⟩ (.int .i64 0)).setCell ⟨w.heap.size, 4, none⟩ (.slice none 0 0)).setCell ⟨w.heap.size, 5, none⟩ (.slice (some ⟨B, 0, none⟩) 4 4)).setCell ⟨w.heap.size, 6, none⟩ (.slice (some ⟨w9.heap.size, 0, none⟩) 0 0)) from (((((((HB10.out.setCell (p := ⟨hb + 1, 6, none⟩) (by have := HLZ.out; show w.heap.size ≤ hb + 1; omega) (.slice (some ⟨w9.heap.size, 0, none⟩) 0 0)).setCell (p := ⟨w.heap.size, 0, none⟩) ν (.int .i64 2)).setCell (p := ⟨w.heap.size, 1, none⟩) ν (.int .i64 0)).setCell (p := ⟨w.heap.size, 2, none⟩) ν (.slice none 0 0)).setCell (p := ⟨w.heap.size, 3, none⟩) ν (.int .i64 0)).setCell (p := ⟨w.heap.size, 4, none⟩) ν (.slice none 0 0)).setCell (p := ⟨w.heap.size, 5, none⟩) ν (.slice (some ⟨B, 0, none⟩) 4 4)).setCell (p := ⟨w.heap.size, 6, none⟩) ν (.slice (some ⟨w9.heap.size, 0, none⟩) 0 0))
  have HP12 := η ((((((((HP10.out.setFar (k := hb + 1) (i := 6) (v := .slice (some ⟨w9.heap.size, 0, none⟩) 0 0) HBQ.out).setFar (k := w.heap.size) (i := 0) (v := .int .i64 2) HBZ.out).setFar (k := w.heap.size) (i := 1) (v := .int .i64 0) HBZ.out).setFar (k := w.heap.size) (i := 2) (v := .slice none 0 0) HBZ.out).setFar (k := w.heap.size) (i := 3) (v := .int .i64 0) HBZ.out).setFar (k := w.heap.size) (i := 4) (v := .slice none 0 0) HBZ.out).setFar (k := w.heap.size) (i := 5) (v := .slice (some ⟨B, 0, none⟩) 4 4) HBZ.out).setFar (k := w.heap.size) (i := 6) (v := .slice (some ⟨w9.heap.size, 0, none⟩) 0 0) HBZ.out)
  have HZ12 := η ((((((((HZ11.out).set 0 (.int .i64 2)).set 1 (.int .i64 0)).set 2 (.slice none 0 0)).set 3 (.int .i64 0)).set 4 (.slice none 0 0)).set 5 (.slice (some ⟨B, 0, none⟩) 4 4)).set 6 (.slice (some ⟨w9.heap.size, 0, none⟩) 0 0))
  generalize (((((((w10.setCell ⟨hb + 1, 6, none⟩ (.slice (some ⟨w9.heap.size, 0, none⟩) 0 0)).setCell ⟨w.heap.size, 0, none⟩ (.int .i64 2)).setCell ⟨w.heap.size, 1, none⟩ (.int .i64 0)).setCell ⟨w.heap.size, 2, none⟩ (.slice none 0 0)).setCell ⟨w.heap.size, 3, none⟩ (.int .i64 0)).setCell ⟨w.heap.size, 4, none⟩ (.slice none 0 0)).setCell ⟨w.heap.size, 5, none⟩ (.slice (some ⟨B, 0, none⟩) 4 4)).setCell ⟨w.heap.size, 6, none⟩ (.slice (some ⟨w9.heap.size, 0, none⟩) 0 0) = w12 at *
  have q0 := HZ12.out.cell 0 (v := .int .i64 2) rfl
  have q1 := HZ12.out.cell 1 (v := .int .i64 0) rfl
  have q2 := HZ12.out.cell 2 (v := .slice none 0 0) rfl
  have q3 := HZ12.out.cell 3 (v := .int .i64 0) rfl
  have q4 := HZ12.out.cell 4 (v := .slice none 0 0) rfl
  have q5 := HZ12.out.cell 5 (v := .slice (some ⟨B, 0, none⟩) 4 4) rfl
  have q6 := HZ12.out.cell 6 (v := .slice (some ⟨w9.heap.size, 0, none⟩) 0 0) rfl
  refine bodyPost_ret (v := .tuple #[.agg #[.int .i64 2, .int .i64 0, .slice none 0 0, .int .i64 0, .slice none 0 0, .slice (some ⟨B, 0, none⟩) 4 4, .slice (some ⟨w9.heap.size, 0, none⟩) 0 0], .int .i64 0]) (by simp [results, Tryz.results54, go_sem, q0, q1, q2, q3, q4, q5, q6]) rfl ⟨⟨B, w9.heap.size, rfl, HP12.out⟩, HB12.out⟩
theorem By.drop {w : World} {b off c : Nat} {l m : List Int} (h : By w (some ⟨b, off, none⟩) c (l ++ m)) : By w (some ⟨b, off + l.length, none⟩) (c - l.length) m :=
 ⟨by have := h.cap; simp at this; omega, by have := h.max; omega, fun h0 => by
  obtain ⟨b', o', e, hlt, hc⟩ := h.at_ (by simp; omega)
  obtain ⟨rfl, rfl⟩ : b = b' ∧ off = o' := by simpa using e
  refine ⟨b, _, rfl, hlt, fun i x hi => ?_⟩
  have := hc (l.length + i) x (by rw [List.getElem?_append_right (by omega)]; simpa using hi)
  rw [← Nat.add_assoc] at this; exact this⟩
def rgsR (Q : Nat → Option Addr × Nat × Nat) (F G : Nat → Nat → Int) (m : Nat) : Nat → List Int
 | 0 => []
 | j + 1 => ptsB (F m) (G m) (Q m).2.1 ++ rgsR Q F G (m + 1) j
theorem Zhh (Q : Nat → Option Addr × Nat × Nat) (F G : Nat → Nat → Int) : ∀ j m, rgsB Q F G (m + j) = rgsB Q F G m ++ rgsR Q F G m j
 | 0, m => by simp [rgsR]
 | j + 1, m => by
  rw [show m + (j + 1) = (m + 1) + j by omega, Zhh Q F G j (m + 1), rgsB, rgsR, List.append_assoc]
theorem ZiQ (Q : Nat → Option Addr × Nat × Nat) (F G : Nat → Nat → Int) (n : Nat) : rgsB Q F G n = rgsR Q F G 0 n := by have := Zhh Q F G n 0; simpa [rgsB] using this
theorem Zhi (Q : Nat → Option Addr × Nat × Nat) (F G : Nat → Nat → Int) {m n : Nat} (h : m < n) : rgsR Q F G m (n - m) = ptsB (F m) (G m) (Q m).2.1 ++ rgsR Q F G (m + 1) (n - (m + 1)) := by
 rw [show n - m = (n - (m + 1)) + 1 by omega, rgsR]
structure PtT (w : World) (B n : Nat) (f g : Nat → Int) : Prop where
 pts : Pts w (Option.some ⟨B, 0, none⟩) n n f g
 box : ∃ cur, Bx w B cur 23
theorem PtT.keep {w w' : World} {B n : Nat} {f g : Nat → Int} (h : PtT w B n f g) (hk : ∀ cur, Bx w B cur 23 → Bx w' B cur 23) : PtT w' B n f g := by
 obtain ⟨cur, hb⟩ := h.box
 have hb' := hk cur hb
 refine ⟨⟨h.pts.cap, h.pts.max, h.pts.isi, fun h0 => ?_⟩, cur, hb'⟩
 obtain ⟨b, o, e, hlt, hc⟩ := h.pts.at_ h0
 obtain ⟨rfl, rfl⟩ : B = b ∧ 0 = o := by simpa using e
 have he : ∀ i, w'.cell? ⟨B, i, none⟩ = w.cell? ⟨B, i, none⟩ := fun i => World.cell?_of_block (w := w) (w' := w') (a := ⟨B, i, none⟩) ((show w'.heap[B]? = _ from hb').trans (show w.heap[B]? = _ from hb).symm)
 exact ⟨B, 0, rfl, hb'.lt, fun i hi => ⟨(he _).trans (hc i hi).1, (he _).trans (hc i hi).2⟩⟩
theorem PtT.alloc {w : World} {B n : Nat} {f g : Nat → Int} (h : PtT w B n f g) (o : Obj) : PtT (w.alloc o) B n f g := h.keep fun cur hb => hb.alloc o
theorem PtT.below {w w' : World} {B n k : Nat} {f g : Nat → Int} (h : PtT w B n f g) (hb : Below k w w') (hk : w.heap.size ≤ k) : PtT w' B n f g := h.keep fun cur hx => hx.below hb hk
theorem PtT.gr {w w' : World} {B n br : Nat} {f g : Nat → Int} {cs : Array Value} {t : TypeId} (h : PtT w B n f g) (hb : Bx w br cs t) (ht : t ≠ 23) (hg : w.grownBy w' (Option.some br)) : PtT w' B n f g :=
 h.keep fun cur hx => JD hx (Zaa hx hb (fun e => ht e.symm)) hg
theorem PtT.row {w w' : World} {base B n m : Nat} {x : Value} {xs : List Value} {f g : Nat → Int} (h : PtT w B n f g) (hg : w.grownBy w' x.ownBlock) (ho : w.ownsRow base 48 3 x m xs) : PtT w' B n f g :=
 h.keep fun cur hx => JV hx (by decide) hg ho
theorem PtT.set {w : World} {B n k i : Nat} {v : Value} {f g : Nat → Int} {cs : Array Value} {t : TypeId} (h : PtT w B n f g) (hb : Bx w k cs t) (ht : t ≠ 23) : PtT (w.setCell ⟨k, i, none⟩ v) B n f g :=
 h.keep fun cur hx => hx.other _ (Zaa hx hb (fun e => ht e.symm))
theorem OwR.keep {w w' : World} {base n : Nat} {x : Value} {d : Nat → Bool} {v : Nat → Int} {Q : Nat → Option Addr × Nat × Nat} (h : OwR w base x n d v Q) (hk : ∀ g cur, x.ownBlock = Option.some g → Bx w g cur 48 → Bx w' g cur 48) : OwR w' base x n d v Q := by
 refine ⟨h.1, ?_⟩
 rcases h.2 with h | ⟨g, c, cur, e1, e2, e3, e4⟩
 ·exact .inl h
 ·exact .inr ⟨g, c, cur, e1, e2, hk g cur (by rw [e1]; rfl) e3, e4⟩
theorem OwR.gr {w w' : World} {base n br : Nat} {x : Value} {d : Nat → Bool} {v : Nat → Int} {Q : Nat → Option Addr × Nat × Nat} {cs : Array Value} {t : TypeId} (h : OwR w base x n d v Q) (hb : Bx w br cs t) (ht : t ≠ 48) (hg : w.grownBy w' (Option.some br)) : OwR w' base x n d v Q :=
 h.keep fun g cur _ hx => JD hx (Zaa hx hb (fun e => ht e.symm)) hg
theorem OwR.lt {w : World} {base n : Nat} {x : Value} {d : Nat → Bool} {v : Nat → Int} {Q : Nat → Option Addr × Nat × Nat} (h : OwR w base x n d v Q) : ∀ g, x.ownBlock = Option.some g → g < w.heap.size := by
 intro g hg
 obtain ⟨_, cur, hb⟩ := Jv h hg
 exact hb.lt
theorem OwR.setNe {w : World} {base n k i : Nat} {x y : Value} {d : Nat → Bool} {v : Nat → Int} {Q : Nat → Option Addr × Nat × Nat} (h : OwR w base x n d v Q) (hne : ∀ g, x.ownBlock = Option.some g → g ≠ k) : OwR (w.setCell ⟨k, i, none⟩ y) base x n d v Q :=
 h.keep fun g cur hg hx => hx.other _ (hne g hg)
theorem Zck {d : Nat → Bool} {v : Nat → Int} {Q Q' : Nat → Option Addr × Nat × Nat} : ∀ n, (∀ i, i < n → Q i = Q' i) → rgL d v Q n = rgL d v Q' n
 | 0, _ => rfl
 | n + 1, h => by rw [rgL, rgL, Zck n (fun i hi => h i (by omega)), h n (by omega)]
theorem OwR.congr {w : World} {base n : Nat} {x : Value} {d : Nat → Bool} {v : Nat → Int} {Q Q' : Nat → Option Addr × Nat × Nat} (h : OwR w base x n d v Q) (hq : ∀ i, i < n → Q i = Q' i) : OwR w base x n d v Q' := by
 unfold OwR; rw [← Zck n hq]; exact h
def putQ (B : Nat → Nat) (K : Nat → Nat) : Nat → Option Addr × Nat × Nat := fun i => (Option.some ⟨B i, 0, none⟩, K i, K i)
def setB (B : Nat → Nat) (m x : Nat) : Nat → Nat := fun i => if i = m then x else B i
theorem Zgc {B : Nat → Nat} {m x i : Nat} (h : i < m) : setB B m x i = B i := by unfold setB; rw [if_neg (by omega)]
theorem Zgd {B : Nat → Nat} {m x : Nat} : setB B m x m = x := by unfold setB; rw [if_pos rfl]
theorem ZiR {B K : Nat → Nat} {m x i : Nat} (h : i < m) : putQ B K i = putQ (setB B m x) K i := by unfold putQ; rw [Zgc h]
theorem Rd.keep {w w' : World} {br : Nat} {l : List Int} (h : Rd w br l) (hs : w.heap.size ≤ w'.heap.size) (hk : ∀ k, k ≤ br → w'.heap[k]? = w.heap[k]?) : Rd w' br l := by
 obtain ⟨A, c, h1, h2, h3⟩ := h
 refine ⟨A, c, (hk br ν).trans h1, ⟨h2.cap, h2.max, fun h0 => ?_⟩, h3⟩
 obtain ⟨b, off, e, hlt, hc⟩ := h2.at_ h0
 refine ⟨b, off, e, Nat.lt_of_lt_of_le hlt hs, fun i x hi => ?_⟩
 exact (World.cell?_of_block (w := w) (w' := w') (a := ⟨b, off + i, none⟩) (hk b (Nat.le_of_lt (h3 _ e)))).trans (hc i x hi)
theorem Rd.row {w w' : World} {br base m : Nat} {l : List Int} {x : Value} {xs : List Value} (h : Rd w br l) (hg : w.grownBy w' x.ownBlock) (ho : w.ownsRow base 48 3 x m xs) (hb : br < base) : Rd w' br l :=
 h.keep hg.size fun k hk => hg.block k (Nat.lt_of_le_of_lt hk h.lt) fun e => by have := (Jv ho e.symm).1; omega
theorem Rd.setHi {w : World} {br k i : Nat} {l : List Int} {v : Value} (h : Rd w br l) (hk : br < k) : Rd (w.setCell ⟨k, i, none⟩ v) br l :=
 h.keep (by simp [World.setCell]) fun j hj => Below.heap_setCell _ _ _ _ (by show j ≠ k; omega)
theorem Rd.setBox {w : World} {br k i : Nat} {l : List Int} {v : Value} {cs : Array Value} {t : TypeId} (h : Rd w br l) (hb : Bx w k cs t) (hn : ∀ u ∈ cs.toList, ∀ x, u ≠ .int .u8 x) (hne : br ≠ k) : Rd (w.setCell ⟨k, i, none⟩ v) br l := by
 obtain ⟨A, c, h1, h2, h3⟩ := h
 exact ⟨A, c, h1.other _ hne, JT h2 hb hn (JK _ _ _ _), h3⟩
theorem Za6 (w : World) {k j i : Nat} {v : Value} (h : j ≠ k) : (w.setCell ⟨k, i, none⟩ v).heap[j]? = w.heap[j]? := Below.heap_setCell _ _ _ _ h
theorem Zbo (w : World) {k j : Nat} {v0 v1 v2 v3 v4 v5 v6 : Value} (h : j ≠ k) : (((((((w.setCell ⟨k, 0, none⟩ v0).setCell ⟨k, 1, none⟩ v1).setCell ⟨k, 2, none⟩ v2).setCell ⟨k, 3, none⟩ v3).setCell ⟨k, 4, none⟩ v4).setCell ⟨k, 5, none⟩ v5).setCell ⟨k, 6, none⟩ v6).heap[j]? = w.heap[j]? := by
 rw [Za6 _ h, Za6 _ h, Za6 _ h, Za6 _ h, Za6 _ h, Za6 _ h, Za6 _ h]
theorem PtT.heq {w w' : World} {B n : Nat} {f g : Nat → Int} (h : PtT w B n f g) (he : w'.heap[B]? = w.heap[B]?) : PtT w' B n f g := h.keep fun cur hb => he.trans hb
theorem Rgs.heq {w w' : World} {g n c : Nat} {d : Nat → Bool} {v : Nat → Int} {Q : Nat → Option Addr × Nat × Nat} (h : Rgs w (Option.some ⟨g, 0, none⟩) n c d v Q) (he : w'.heap[g]? = w.heap[g]?) : Rgs w' (Option.some ⟨g, 0, none⟩) n c d v Q :=
 ⟨h.cap, h.max, h.isi, fun h0 => by
  obtain ⟨b, o, e, hlt, hc⟩ := h.at_ h0
  obtain ⟨rfl, rfl⟩ : g = b ∧ 0 = o := by simpa using e
  have hx : ∀ i, w'.cell? ⟨g, i, none⟩ = w.cell? ⟨g, i, none⟩ := fun i => World.cell?_of_block (w := w) (w' := w') (a := ⟨g, i, none⟩) he
  refine ⟨g, 0, rfl, ?_, fun i hi => ⟨(hx _).trans (hc i hi).1, (hx _).trans (hc i hi).2.1, (hx _).trans (hc i hi).2.2⟩⟩
  rcases Nat.lt_or_ge g w'.heap.size with h1 | h1
  ·exact h1
  ·rw [Array.getElem?_eq_none h1] at he
   rw [Array.getElem?_eq_getElem hlt] at he
   cases he⟩

set_option maxRecDepth 100000 in
theorem ZcJ (pe po : Nat) (w : World) (hc : w.cell? ⟨pe, 0, none⟩ = some (.int .i64 0)) (u : FrameMode) :
  CallsD Tryz.prog 53 #[.pointer (some ⟨pe, 0, none⟩), .pointer (some ⟨po, 0, none⟩)] u w fun e u' w' => u' = u ∧ (e = .returned (.tuple #[]) ∧ w' = w) := by
 go_enter_d Tryz.func53, Tryz.ntmps53
 go_wp2_with fail
 go_end0
 exact ⟨rfl, rfl⟩
set_option maxRecDepth 100000 in
theorem Zew (A : Option Addr) (c : Nat) (f g : Nat → Int) (w : World) (hT : TabM w) (hF : TabF w) (hi : ∀ i, i < 3 → IsI (f i) ∧ IsI (g i)) (hb : By w A c (1 :: ptsB f g 3)) :
  Calls Tryz.prog 30 #[.pointer none, .slice A 49 c] w fun e w' => (∃ A' c', e = .returned (.slice A' 2 c') ∧ By w' A' c' [0, sg (det (f 0) (g 0) (f 1) (g 1) (f 2) (g 2)) + 1]) ∧ Below w.heap.size w w' := by
 have HB0 := η (Below.refl w.heap.size w); have FT := η hT; have FF := η hF; have FB := η hb; have HI := η hi; have HT0 := FT; clear hT hF hb hi
 have hmf : ∀ (fn : Fn) (first cap : Array Value) (w : World), (Instr.makeFunc fn first cap).run Tryz.prog w = .ok (.func fn first cap) w := fun _ _ _ _ => rfl
 go_enter_defers Tryz.func30, Tryz.ntmps30
 go_wp2_with fail
 have B : Below w.heap.size w ((w.alloc (.cells #[.slice none 0 0] 24)).alloc (.cells #[.int .i64 0] 67)) := ((HB0.out.alloc HB0.out.size _).alloc (HB0.out.alloc HB0.out.size _).size _)
 have C : Below w.heap.size w ((w.alloc (.cells #[.slice none 0 0] 24)).alloc (.cells #[.int .i64 0] 67)) := (((Below.refl w.heap.size w).alloc ν _).alloc (by simp; try omega) _)
 have X0 : Bx ((w.alloc (.cells #[.slice none 0 0] 24)).alloc (.cells #[.int .i64 0] 67)) (w.heap.size) #[.slice none 0 0] 24 := by simpa using ((Bx.new w #[.slice none 0 0] 24).alloc _)
 have X1 : Bx ((w.alloc (.cells #[.slice none 0 0] 24)).alloc (.cells #[.int .i64 0] 67)) (w.heap.size + 1) #[.int .i64 0] 67 := by simpa using (Bx.new (w.alloc (.cells #[.slice none 0 0] 24)) #[.int .i64 0] 67)
 have FT_1 := η (FT.out.below C ν)
 have FF_1 := η (FF.out.below C ν)
 have FB_1 := η (FB.out.below C ν)
 have HB1 := η B
 have FO_1 := η X0
 have FE_1 := η X1
 clear B C X0 X1 HB0 FT FF FB
 generalize ((w.alloc (.cells #[.slice none 0 0] 24)).alloc (.cells #[.int .i64 0] 67)) = w1 at *
 skip
 refine (ZdM 1 (by decide) A c f g HI.out _ FF_1.out FB_1.out).mono ?_
 rintro e w2 ⟨⟨pb, qb, rfl, hP⟩, B⟩
 have HB2 := η (HB1.out.trans (B.mono HB1.out.size))
 have FT_2 := η (FT_1.out.below B ν)
 have FF_2 := η (FF_1.out.below B ν)
 have FB_2 := η (FB_1.out.below B ν)
 have FO_2 := η (FO_1.out.below B ν)
 have FE_2 := η (FE_1.out.below B ν)
 have FP_2 := η hP
 clear B hP HB1 FT_1 FF_1 FB_1 FO_1 FE_1
 have e0 := FE_2.out.cell 0 (v := .int .i64 0) rfl; have ez := FE_2.out.free 0
 have d0 := (FE_2.out.alloc (.cells #[.int .i64 1, .int .i64 0, .slice none 0 0, .int .i64 0, .slice none 0 0, .slice (some ⟨pb, 0, none⟩) 3 3, .slice (some ⟨qb, 0, none⟩) 0 0] 99)).cell 0 (v := .int .i64 0) rfl; have dz := (FE_2.out.alloc (.cells #[.int .i64 1, .int .i64 0, .slice none 0 0, .int .i64 0, .slice none 0 0, .slice (some ⟨pb, 0, none⟩) 3 3, .slice (some ⟨qb, 0, none⟩) 0 0] 99)).free 0
 go_upto_region 4 with (fail)
 clear e0 ez d0 dz
 have HPE := η (show pb ≠ w.heap.size + 1 from fun e => by
  have h1 := FP_2.out.y0 (by decide)
  have h2 := FE_2.out
  rw [← e] at h2
  unfold Bx at h2
  simp [World.cell?, h2] at h1)
 have HR3 := η (show Bx ((w2.alloc (.cells #[.int .i64 1, .int .i64 0, .slice none 0 0, .int .i64 0, .slice none 0 0, .slice (some ⟨pb, 0, none⟩) 3 3, .slice (some ⟨qb, 0, none⟩) 0 0] 99)).setCell ⟨w.heap.size + 1, 0, none⟩ (.int .i64 0)) w2.heap.size #[.int .i64 1, .int .i64 0, .slice none 0 0, .int .i64 0, .slice none 0 0, .slice (some ⟨pb, 0, none⟩) 3 3, .slice (some ⟨qb, 0, none⟩) 0 0] 99 from (Bx.new _ _ _).other _ (by have := FE_2.out.lt; show w2.heap.size ≠ w.heap.size + 1; omega))
 have HE3 := η (show Bx ((w2.alloc (.cells #[.int .i64 1, .int .i64 0, .slice none 0 0, .int .i64 0, .slice none 0 0, .slice (some ⟨pb, 0, none⟩) 3 3, .slice (some ⟨qb, 0, none⟩) 0 0] 99)).setCell ⟨w.heap.size + 1, 0, none⟩ (.int .i64 0)) (w.heap.size + 1) #[.int .i64 0] 67 from (FE_2.out.alloc _).set 0 _)
 have HO3 := η (show Bx ((w2.alloc (.cells #[.int .i64 1, .int .i64 0, .slice none 0 0, .int .i64 0, .slice none 0 0, .slice (some ⟨pb, 0, none⟩) 3 3, .slice (some ⟨qb, 0, none⟩) 0 0] 99)).setCell ⟨w.heap.size + 1, 0, none⟩ (.int .i64 0)) w.heap.size #[.slice none 0 0] 24 from (FO_2.out.alloc _).other _ (by show w.heap.size ≠ w.heap.size + 1; omega))
 have HP3 := η (show Pts ((w2.alloc (.cells #[.int .i64 1, .int .i64 0, .slice none 0 0, .int .i64 0, .slice none 0 0, .slice (some ⟨pb, 0, none⟩) 3 3, .slice (some ⟨qb, 0, none⟩) 0 0] 99)).setCell ⟨w.heap.size + 1, 0, none⟩ (.int .i64 0)) (some ⟨pb, 0, none⟩) 3 3 f g from (FP_2.out.alloc _).setFar HPE.out)
 have HB3 := η (show Below w.heap.size w ((w2.alloc (.cells #[.int .i64 1, .int .i64 0, .slice none 0 0, .int .i64 0, .slice none 0 0, .slice (some ⟨pb, 0, none⟩) 3 3, .slice (some ⟨qb, 0, none⟩) 0 0] 99)).setCell ⟨w.heap.size + 1, 0, none⟩ (.int .i64 0)) from (HB2.out.alloc HB2.out.size _).setCell (p := ⟨w.heap.size + 1, 0, none⟩) (by show w.heap.size ≤ w.heap.size + 1; omega) _)
 have HT3 := η (HT0.out.below HB3.out ν)
 generalize ((w2.alloc (.cells #[.int .i64 1, .int .i64 0, .slice none 0 0, .int .i64 0, .slice none 0 0, .slice (some ⟨pb, 0, none⟩) 3 3, .slice (some ⟨qb, 0, none⟩) 0 0] 99)).setCell ⟨w.heap.size + 1, 0, none⟩ (.int .i64 0)) = w3 at *
 generalize w2.heap.size = rb at *
 clear FE_2 FO_2 FP_2 HB2 FT_2 HPE
 have vE0 := HE3.out.cell 0 (v := .int .i64 0) rfl
 have vR0 := HR3.out.cell 0 (v := .int .i64 1) rfl
 have vR1 := HR3.out.cell 1 (v := .int .i64 0) rfl
 have vR2 := HR3.out.cell 2 (v := .slice none 0 0) rfl
 have vR3 := HR3.out.cell 3 (v := .int .i64 0) rfl
 have vR4 := HR3.out.cell 4 (v := .slice none 0 0) rfl
 have vR5 := HR3.out.cell 5 (v := .slice (some ⟨pb, 0, none⟩) 3 3) rfl
 have vR6 := HR3.out.cell 6 (v := .slice (some ⟨qb, 0, none⟩) 0 0) rfl
 go_wp2_with fail
 refine (Zev (some ⟨qb, 0, none⟩) 0 pb 3 f g _ HT3.out HP3.out).mono ?_
 rintro e w4 ⟨rfl, B⟩
 clear vE0 vR0 vR1 vR2 vR3 vR4 vR5 vR6
 have HB4 := η (HB3.out.trans (B.mono HB3.out.size))
 have FT_4 := η (HT3.out.below B ν)
 have FR_4 := η (HR3.out.below B ν)
 have FE_4 := η (HE3.out.below B ν)
 have FO_4 := η (HO3.out.below B ν)
 have FP_4 := η (HP3.out.below B ν)
 clear B  HB3 HT3 HR3 HE3 HO3 HP3
 have e0 := FE_4.out.cell 0 (v := .int .i64 0) rfl; have ez := FE_4.out.free 0
 have d0 := (FE_4.out.alloc (.cells #[.int .i64 (sg (det (f 0) (g 0) (f 1) (g 1) (f 2) (g 2)) + 1), .int .i64 0, .slice none 0 0] 102)).cell 0 (v := .int .i64 0) rfl; have dz := (FE_4.out.alloc (.cells #[.int .i64 (sg (det (f 0) (g 0) (f 1) (g 1) (f 2) (g 2)) + 1), .int .i64 0, .slice none 0 0] 102)).free 0
 go_upto_region 7 with (fail)
 clear e0 ez d0 dz
 have HRE := η (show rb ≠ w.heap.size + 1 from fun e => by
  have h1 := FR_4.out
  have h2 := FE_4.out
  rw [← e] at h2
  unfold Bx at h1 h2
  rw [h1] at h2
  simp at h2)
 have HR5 := η (show Bx ((w4.alloc (.cells #[.int .i64 (sg (det (f 0) (g 0) (f 1) (g 1) (f 2) (g 2)) + 1), .int .i64 0, .slice none 0 0] 102)).setCell ⟨w.heap.size + 1, 0, none⟩ (.int .i64 0)) rb #[.int .i64 1, .int .i64 0, .slice none 0 0, .int .i64 0, .slice none 0 0, .slice (some ⟨pb, 0, none⟩) 3 3, .slice (some ⟨qb, 0, none⟩) 0 0] 99 from (FR_4.out.alloc _).other _ HRE.out)
 have HA5 := η (show Bx ((w4.alloc (.cells #[.int .i64 (sg (det (f 0) (g 0) (f 1) (g 1) (f 2) (g 2)) + 1), .int .i64 0, .slice none 0 0] 102)).setCell ⟨w.heap.size + 1, 0, none⟩ (.int .i64 0)) w4.heap.size #[.int .i64 (sg (det (f 0) (g 0) (f 1) (g 1) (f 2) (g 2)) + 1), .int .i64 0, .slice none 0 0] 102 from (Bx.new _ _ _).other _ (by have := FE_4.out.lt; show w4.heap.size ≠ w.heap.size + 1; omega))
 have HE5 := η (show Bx ((w4.alloc (.cells #[.int .i64 (sg (det (f 0) (g 0) (f 1) (g 1) (f 2) (g 2)) + 1), .int .i64 0, .slice none 0 0] 102)).setCell ⟨w.heap.size + 1, 0, none⟩ (.int .i64 0)) (w.heap.size + 1) #[.int .i64 0] 67 from (FE_4.out.alloc _).set 0 _)
 have HO5 := η (show Bx ((w4.alloc (.cells #[.int .i64 (sg (det (f 0) (g 0) (f 1) (g 1) (f 2) (g 2)) + 1), .int .i64 0, .slice none 0 0] 102)).setCell ⟨w.heap.size + 1, 0, none⟩ (.int .i64 0)) w.heap.size #[.slice none 0 0] 24 from (FO_4.out.alloc _).other _ (by show w.heap.size ≠ w.heap.size + 1; omega))
 have HB5 := η (show Below w.heap.size w ((w4.alloc (.cells #[.int .i64 (sg (det (f 0) (g 0) (f 1) (g 1) (f 2) (g 2)) + 1), .int .i64 0, .slice none 0 0] 102)).setCell ⟨w.heap.size + 1, 0, none⟩ (.int .i64 0)) from (HB4.out.alloc HB4.out.size _).setCell (p := ⟨w.heap.size + 1, 0, none⟩) (by show w.heap.size ≤ w.heap.size + 1; omega) _)
 generalize ((w4.alloc (.cells #[.int .i64 (sg (det (f 0) (g 0) (f 1) (g 1) (f 2) (g 2)) + 1), .int .i64 0, .slice none 0 0] 102)).setCell ⟨w.heap.size + 1, 0, none⟩ (.int .i64 0)) = w5 at *
 generalize w4.heap.size = ab at *
 clear FE_4 FO_4 FP_4 HB4 FT_4 FR_4 HRE
 have HX := η (show sg (det (f 0) (g 0) (f 1) (g 1) (f 2) (g 2)) + 1 = 0 ∨ sg (det (f 0) (g 0) (f 1) (g 1) (f 2) (g 2)) + 1 = 1 ∨ sg (det (f 0) (g 0) (f 1) (g 1) (f 2) (g 2)) + 1 = 2 from by have := Zbd (det (f 0) (g 0) (f 1) (g 1) (f 2) (g 2)); omega)
 have vE0 := HE5.out.cell 0 (v := .int .i64 0) rfl
 have vR0 := HR5.out.cell 0 (v := .int .i64 1) rfl
 have vR1 := HR5.out.cell 1 (v := .int .i64 0) rfl
 have vR2 := HR5.out.cell 2 (v := .slice none 0 0) rfl
 have vR3 := HR5.out.cell 3 (v := .int .i64 0) rfl
 have vR4 := HR5.out.cell 4 (v := .slice none 0 0) rfl
 have vR5 := HR5.out.cell 5 (v := .slice (some ⟨pb, 0, none⟩) 3 3) rfl
 have vR6 := HR5.out.cell 6 (v := .slice (some ⟨qb, 0, none⟩) 0 0) rfl
 have vA0 := HA5.out.cell 0 (v := .int .i64 (sg (det (f 0) (g 0) (f 1) (g 1) (f 2) (g 2)) + 1)) rfl
 have vA1 := HA5.out.cell 1 (v := .int .i64 0) rfl
 have vA2 := HA5.out.cell 2 (v := .slice none 0 0) rfl
 go_wp2_with fail
 refine (Zdm 1 (by decide) _ HX.out _).mono ?_
 rintro e w6 ⟨⟨A', c', rfl, hby⟩, B⟩
 clear vE0 vR0 vR1 vR2 vR3 vR4 vR5 vR6 vA0 vA1 vA2
 have HB6 := η (HB5.out.trans (B.mono HB5.out.size))
 have FR_6 := η (HR5.out.below B ν)
 have FA_6 := η (HA5.out.below B ν)
 have FE_6 := η (HE5.out.below B ν)
 have FO_6 := η (HO5.out.below B ν)
 have FY_6 := η hby
 clear B hby HB5 HR5 HA5 HE5 HO5
 have e0 := FE_6.out.cell 0 (v := .int .i64 0) rfl; have ez := FE_6.out.free 0; have o0 := FO_6.out.cell 0 (v := .slice none 0 0) rfl; have oz := FO_6.out.free 0
 go_wp2_with fail
 clear e0 ez o0 oz
 have hne : w.heap.size ≠ w.heap.size + 1 := by omega
 have HO6 := η (FO_6.out.set 0 (.slice A' 2 c'))
 have HE6 := η (FE_6.out.other (a := ⟨w.heap.size, 0, none⟩) (.slice A' 2 c') (by show w.heap.size + 1 ≠ w.heap.size; omega))
 have HY6 := η (JT FY_6.out FO_6.out (by simp) (JK _ _ 0 (.slice A' 2 c')))
 have HO7 := η (HO6.out.other (a := ⟨w.heap.size + 1, 0, none⟩) (.int .i64 0) hne)
 have HE7 := η (HE6.out.set 0 (.int .i64 0))
 have HY7 := η (JT HY6.out HE6.out (by simp) (JK _ _ 0 (.int .i64 0)))
 have HO8 := η (HO7.out.set 0 (.slice A' 2 c'))
 have HE8 := η (HE7.out.other (a := ⟨w.heap.size, 0, none⟩) (.slice A' 2 c') (by show w.heap.size + 1 ≠ w.heap.size; omega))
 have HY8 := η (JT HY7.out HO7.out (by simp) (JK _ _ 0 (.slice A' 2 c')))
 have HB8 := η (((HB6.out.setCell (p := ⟨w.heap.size, 0, none⟩) ν (.slice A' 2 c')).setCell (p := ⟨w.heap.size + 1, 0, none⟩) (by show w.heap.size ≤ w.heap.size + 1; omega) (.int .i64 0)).setCell (p := ⟨w.heap.size, 0, none⟩) ν (.slice A' 2 c'))
 generalize (((w6.setCell ⟨w.heap.size, 0, none⟩ (.slice A' 2 c')).setCell ⟨w.heap.size + 1, 0, none⟩ (.int .i64 0)).setCell ⟨w.heap.size, 0, none⟩ (.slice A' 2 c')) = w8 at *
 refine leaves_cons (f := 53) (args := #[.pointer (some ⟨w.heap.size + 1, 0, none⟩), .pointer (some ⟨w.heap.size, 0, none⟩)]) (by simp) (by simp [go_sem]) ?_
 refine (ZcJ _ _ _ (HE8.out.cell 0 rfl) _).mono ?_
 rintro e u' w'' ⟨rfl, rfl, rfl⟩
 have q := HO8.out.cell 0 (v := .slice A' 2 c') rfl
 exact ⟨.slice A' 2 c', by simp [results, Tryz.results30, go_sem, q], ⟨A', c', rfl, HY8.out⟩, HB8.out⟩
theorem Zfg {w : World} {g1 n c k : Nat} {d : Nat → Bool} {v : Nat → Int} {Q : Nat → Option Addr × Nat × Nat} {x : Value} {t : TypeId} (h : Rgs w (Option.some ⟨g1, 0, none⟩) n c d v Q) (hn : 0 < n) (hb : Bx w k #[x] t) : g1 ≠ k := by
 rintro rfl
 obtain ⟨b, o, e, _, hc⟩ := h.at_ hn
 obtain ⟨rfl, rfl⟩ : g1 = b ∧ 0 = o := by simpa using e
 have h1 := (hc 0 hn).2.1
 unfold Bx at hb
 simp [World.cell?, hb] at h1
theorem ZjC {w : World} {B n c k : Nat} {f g : Nat → Int} {x : Value} {t : TypeId} (h : Pts w (Option.some ⟨B, 0, none⟩) n c f g) (hn : 0 < n) (hb : Bx w k #[x] t) : B ≠ k := by
 rintro rfl
 obtain ⟨b, o, e, _, hc⟩ := h.at_ hn
 obtain ⟨rfl, rfl⟩ : B = b ∧ 0 = o := by simpa using e
 have h1 := (hc 0 hn).2
 unfold Bx at hb
 simp [World.cell?, hb] at h1
set_option maxRecDepth 100000 in
theorem Zdn (A : Option Addr) (n c : Nat) (d : Nat → Bool) (v : Nat → Int) (Q : Nat → Option Addr × Nat × Nat) (ho : OkK n v) (w : World) (hr : Rgs w A n c d v Q) :
  Calls Tryz.prog 20 #[.slice A n c] w fun e w' => (∃ g rc, e = .returned (.slice (some ⟨g, 0, none⟩) n rc) ∧ Rgs w' (some ⟨g, 0, none⟩) n rc d v Q0) ∧ Below w.heap.size w w' := by
 obtain ⟨i0, hi0, hz0, hz1, hz2⟩ := info_parts ZeY
 have HR := η hr
 have HO := η ho
 have hcp := hr.cap
 have hmx := hr.max
 have h1 := ho.pos
 have h2 := ho.le
 clear hr ho
 unfold maxLen at hmx
 obtain ⟨b, off, rfl, hbl, hc⟩ := HR.out.at_ (by omega)
 have HC := η hc; have HBL := η hbl; clear hc hbl
 go_enter Tryz.func20, Tryz.ntmps20
 go_wp2_with fail
 go_loopw [3, 8] (fun xr ir wr => ∃ k : Nat, k ≤ n ∧ ir = .int .i64 (k : Int) ∧ OwR wr w.heap.size xr k d v Q0 ∧ Below w.heap.size w wr) (fun _ i _ => n - (intOf i).toNat)
 case atStart => exact ⟨0, by omega, rfl, OwR.nil _ _ _ _ _, J0⟩
 case round =>
  obtain ⟨k, hk, rfl, how, hb⟩ := hrel
  have HB := η hb; have HOW := η how; clear hb how
  by_cases hlt : k < n
  ·have p0 : wr.cell? ⟨b, off + k * 3, none⟩ = some (.bool (d k)) := (HB.out.cell (p := ⟨b, off + k * 3, none⟩) HBL.out).trans (HC.out k hlt).1
   have p1 : wr.cell? ⟨b, off + k * 3 + 1, none⟩ = some (.int .i64 (v k)) := (HB.out.cell (p := ⟨b, off + k * 3 + 1, none⟩) HBL.out).trans (HC.out k hlt).2.1
   have p2 : wr.cell? ⟨b, off + k * 3 + 2, none⟩ = some (.slice (Q k).1 (Q k).2.1 (Q k).2.2) := (HB.out.cell (p := ⟨b, off + k * 3 + 2, none⟩) HBL.out).trans (HC.out k hlt).2.2
   have hms := η (show n - (intOf (.int .i64 ((k : Int) + 1))).toNat < n - (intOf (.int .i64 (k : Int))).toNat from by simp [intOf]; omega)
   have hsz := HB.out.size
   have OW := η ((HOW.out.alloc (.cells #[.bool (d k), .int .i64 (v k), .slice (Q k).1 (Q k).2.1 (Q k).2.2] 48)).alloc (.cells #[.bool (d k), .int .i64 (v k), .slice none 0 0] 48))
   go_wp2_with (at_builtin; refine wpList_append_own _ rfl _ _ 26 rfl w.heap.size 48 i0 (.agg #[.bool false, .int .i64 0, .slice none 0 0]) 3 40 Tryz.underlying26 hi0 hz0 hz1 hz2 rfl (by decide) _ _ _ rfl OW.out ⟨wr.heap.size + 1, 0, none⟩ 1 1 [.bool (d k), .int .i64 (v k), .slice none 0 0] rfl rfl ?c1 ?c2 ?c3 ?c4 ?c5 ?_)
   case c1 => exact Zab (by simp) _ _ _ _
   case c2 => simp [Value.oneCell']
   case c3 => unfold maxLen; omega
   case c4 => omega
   case c5 => (simp; omega)
   intro v' w' hown2 hgrow _
   have HB9 := η (show Below w.heap.size w w' from ZaA ((HB.out.alloc hsz (.cells #[.bool (d k), .int .i64 (v k), .slice (Q k).1 (Q k).2.1 (Q k).2.2] 48)).alloc (Nat.le_trans hsz (by simp)) (.cells #[.bool (d k), .int .i64 (v k), .slice none 0 0] 48)) (Nat.le_trans hsz (by simp; omega)) ν hgrow OW.out)
   have HO9 := η (show OwR w' w.heap.size v' (k + 1) d v Q0 from OwR.snoc hown2 rfl)
   clear hown2 hgrow p0 p1 p2 hsz OW HB HOW
   go_wp2_with fail
   go_roundw
   case rel => exact ⟨k + 1, hlt, by go_num, HO9.out, HB9.out⟩
   case measure => exact hms.out
  ·obtain rfl : k = n := by omega
   obtain ⟨g, rc, rfl, hg, hrg, -⟩ := HOW.out.rgs (by omega) (fun i hi => by have := HO.out.range hi; unfold IsI; omega)
   have HRG := η hrg; clear hg hrg
   go_wp2_with fail
   go_ret
   exact ⟨⟨g, rc, rfl, HRG.out⟩, HB.out⟩
set_option maxRecDepth 100000 in
theorem ZfW (A : Option Addr) (n c : Nat) (d : Nat → Bool) (v : Nat → Int) (Q : Nat → Option Addr × Nat × Nat) (w : World) (hr : Rgs w A n c d v Q) :
    Calls Tryz.prog 36 #[.slice A n c] w fun e w' => (∃ x : Int, e = .returned (.int .i64 x)) ∧ Below w.heap.size w w' := by
  have HR := η hr
  have hcp := hr.cap
  have hmx := hr.max
  clear hr
  unfold maxLen at hmx
  go_enter Tryz.func36, Tryz.ntmps36
  go_wp2_with fail
  go_loopw [3, 8] (fun mr ir wr => ∃ (k : Nat) (s : Int), k ≤ n ∧ mr = .int .i64 s ∧ ir = .int .i64 (k : Int) ∧ Below w.heap.size w wr) (fun _ i _ => n - (intOf i).toNat)
  case atStart => exact ⟨0, 0, by omega, rfl, rfl, J0⟩
  case round =>
    obtain ⟨k, s, hk, rfl, rfl, hb⟩ := hrel
    have HB := η hb; clear hb
    by_cases hlt : k < n
    · obtain ⟨b, off, rfl, hbl, hc⟩ := HR.out.at_ (by omega)
      have p0 : wr.cell? ⟨b, off + k * 3, none⟩ = some (.bool (d k)) := (HB.out.cell (p := ⟨b, off + k * 3, none⟩) hbl).trans (hc k hlt).1
      have p1 : wr.cell? ⟨b, off + k * 3 + 1, none⟩ = some (.int .i64 (v k)) := (HB.out.cell (p := ⟨b, off + k * 3 + 1, none⟩) hbl).trans (hc k hlt).2.1
      have p2 : wr.cell? ⟨b, off + k * 3 + 2, none⟩ = some (.slice (Q k).1 (Q k).2.1 (Q k).2.2) := (HB.out.cell (p := ⟨b, off + k * 3 + 2, none⟩) hbl).trans (hc k hlt).2.2
      clear hc hbl
      have hms := η (show n - (intOf (.int .i64 ((k : Int) + 1))).toNat < n - (intOf (.int .i64 (k : Int))).toNat from by simp [intOf]; omega)
      have HB9 := η (show Below w.heap.size w (wr.alloc (.cells #[.bool (d k), .int .i64 (v k), .slice (Q k).1 (Q k).2.1 (Q k).2.2] 48)) from HB.out.alloc HB.out.size _)
      go_wp2_with fail
      all_goals first
        | (go_ret; exact ⟨⟨_, rfl⟩, HB9.out⟩)
        | (go_roundw
           case rel => exact ⟨k + 1, _, hlt, rfl, by go_num, HB9.out⟩
           case measure => exact hms.out)
    · obtain rfl : k = n := by omega
      go_wp2_with fail
      go_ret
      exact ⟨⟨_, rfl⟩, HB.out⟩
set_option maxRecDepth 100000 in
theorem Zex (A : Option Addr) (n c : Nat) (d : Nat → Bool) (v : Nat → Int) (Q : Nat → Option Addr × Nat × Nat) (ho : OkK n v) (hq : ∀ k, k < n → (Q k).2.1 = 0) (w : World) (hr : Rgs w A n c d v Q) :
  Calls Tryz.prog 43 #[.agg #[.int .i64 4, .int .i64 0, .slice A n c, .int .i64 0]] w fun e w' => (∃ v', e = .returned (.tuple #[v', .int .i64 0]) ∧ OwB w' w.heap.size v' (hdrB 4 n d v 0)) ∧ Below w.heap.size w w' := by
 obtain ⟨i0, hi0, hz0, hz1, hz2⟩ := info_parts Zbh
 have HR := η hr; have HO := η ho; have HQ := η hq
 have hcp := hr.cap
 have hmx := hr.max
 have h1 := ho.pos
 have h2 := ho.le
 clear hr ho hq
 unfold maxLen at hmx
 obtain ⟨b, off, rfl, hbl, hc⟩ := HR.out.at_ (by omega)
 have HC := η hc; have HBL := η hbl; clear hc hbl
 go_enter Tryz.func43, Tryz.ntmps43
 go_wp2_with fail
 have HX := η (Bx.new w #[.int .i64 4, .int .i64 0, .slice (some ⟨b, off, none⟩) n c, .int .i64 0] 28)
 have HB1 := η (show Below w.heap.size w (w.alloc (.cells #[.int .i64 4, .int .i64 0, .slice (some ⟨b, off, none⟩) n c, .int .i64 0] 28)) from J8 J0)
 generalize w.alloc (.cells #[.int .i64 4, .int .i64 0, .slice (some ⟨b, off, none⟩) n c, .int .i64 0] 28) = w1 at *
 have c0 := HX.out.cell 0 (v := .int .i64 4) rfl
 have c1 := HX.out.cell 1 (v := .int .i64 0) rfl
 have c2 := HX.out.cell 2 (v := .slice (some ⟨b, off, none⟩) n c) rfl
 have c3 := HX.out.cell 3 (v := .int .i64 0) rfl
 go_wp2_with fail
 clear c0 c1 c2 c3
 go_loopw [4] (fun ir wr => ∃ k : Nat, k ≤ n ∧ ir = .int .i64 (k : Int) ∧ Below w1.heap.size w1 wr) (fun i _ => n - (intOf i).toNat)
 case atStart => exact ⟨0, by omega, rfl, J0⟩
 case round =>
  obtain ⟨k, hk, rfl, hb_⟩ := hrel
  have HBR := η hb_; clear hb_
  have HXR := η (HX.out.below HBR.out ν)
  have HB := η (HB1.out.trans (HBR.out.mono HB1.out.size))
  by_cases hlt : k < n
  ·have p0 : wr.cell? ⟨b, off + k * 3, none⟩ = some (.bool (d k)) := (HB.out.cell (p := ⟨b, off + k * 3, none⟩) HBL.out).trans (HC.out k hlt).1
   have p1 : wr.cell? ⟨b, off + k * 3 + 1, none⟩ = some (.int .i64 (v k)) := (HB.out.cell (p := ⟨b, off + k * 3 + 1, none⟩) HBL.out).trans (HC.out k hlt).2.1
   have p2 : wr.cell? ⟨b, off + k * 3 + 2, none⟩ = some (.slice (Q k).1 (Q k).2.1 (Q k).2.2) := (HB.out.cell (p := ⟨b, off + k * 3 + 2, none⟩) HBL.out).trans (HC.out k hlt).2.2
   have hms := η (show n - (intOf (.int .i64 ((k : Int) + 1))).toNat < n - (intOf (.int .i64 (k : Int))).toNat from by simp [intOf]; omega)
   have hz := HO.out.kind k hlt
   have c2 := HXR.out.cell 2 (v := .slice (some ⟨b, off, none⟩) n c) rfl
   go_wp2_with fail
   clear p0 p1 p2 c2
   refine (Zb0 (v k) _).mono ?_
   rintro e w5 ⟨rfl, rfl⟩
   go_wp2_with fail
   go_roundw
   case rel => exact ⟨k + 1, hlt, by go_num, HBR.out⟩
   case measure => exact hms.out
  ·obtain rfl : k = n := by omega
   have c0 := HXR.out.cell 0 (v := .int .i64 4) rfl
   have c1 := HXR.out.cell 1 (v := .int .i64 0) rfl
   have c2 := HXR.out.cell 2 (v := .slice (some ⟨b, off, none⟩) k c) rfl
   have c3 := HXR.out.cell 3 (v := .int .i64 0) rfl
   have hxlt := HXR.out.lt
   have hsz := HB.out.size
   have en := Jq (x := (k : Int)) (by omega) (by omega)
   have HO1 := η (show OwB (wr.alloc (.cells #[.int .u8 4] 5)) w.heap.size (.slice (some ⟨wr.heap.size, 0, none⟩) 1 1) [4] from ⟨rfl, .inr ⟨wr.heap.size, 1, #[.int .u8 4], rfl, hsz, Bx.new _ _ _, Nat.le_refl _, by decide, rfl, rfl⟩⟩)
   go_wp2_with (at_builtin; refine wpList_append_own _ rfl _ _ 24 rfl w.heap.size 5 i0 (.int .u8 0) 1 1 Tryz.underlying24 hi0 hz0 hz1 hz2 rfl (by decide) _ _ _ rfl (HO1.out.alloc _) ⟨wr.heap.size + 1, 0, none⟩ 1 1 [.int .u8 (k : Int)] rfl rfl ?c1 ?c2 ?c3 ?c4 ?c5 ?_)
   case c1 => exact Jo (by simp) _ _
   case c2 => simp [Value.oneCell']
   case c3 => skip; first | decide | (unfold maxLen; omega)
   case c4 => skip; first | decide | omega
   case c5 => first | (simp; done) | (simp; omega)
   intro v' w' hown2 hgrow _
   have HF3 := η ((((Fr.refl w.heap.size none wr).alloc hsz (.cells #[.int .u8 4] 5)).alloc (Nat.le_trans hsz (by simp)) (.cells #[.int .u8 (k : Int)] 5)).grown hgrow (HO1.out.alloc _) (Nat.le_trans hsz (by simp; omega)))
   have HO3 := η (show OwB w' w.heap.size v' (4 :: (k : Int) :: codL d v 0) from OwB.snoc (l := [4]) hown2 rfl)
   clear hown2 hgrow HO1 c0 c1 c2 c3 en hxlt hsz
   have HX3 := η (HF3.out.keep _ _ _ (by decide) (by simp) HXR.out)
   have c0 := HX3.out.cell 0 (v := .int .i64 4) rfl
   have c1 := HX3.out.cell 1 (v := .int .i64 0) rfl
   have c2 := HX3.out.cell 2 (v := .slice (some ⟨b, off, none⟩) k c) rfl
   have c3 := HX3.out.cell 3 (v := .int .i64 0) rfl
   go_wp2_with fail
   clear c0 c1 c2 c3
   generalize wr = wq at *
   go_loopw [5, 6] (fun vr ir wx => ∃ j : Nat, j ≤ k ∧ ir = .int .i64 (j : Int) ∧ OwB wx w.heap.size vr (4 :: (k : Int) :: codL d v j) ∧ Fr w.heap.size none wq wx) (fun _ i _ => k - (intOf i).toNat)
   case atStart => exact ⟨0, by omega, rfl, HO3.out, HF3.out⟩
   case round =>
    obtain ⟨j, hj, rfl, hown, hfr⟩ := hrel
    have HOW := η hown; have HFR := η hfr; clear hown hfr
    have HBJ := η (HB.out.trans HFR.out.below)
    have HXJ := η (HFR.out.keep _ _ _ (by decide) (by simp) HXR.out)
    have hsz := HBJ.out.size
    have hxlt := HXJ.out.lt
    by_cases hlt : j < k
    ·have p0 : wr.cell? ⟨b, off + j * 3, none⟩ = some (.bool (d j)) := (HBJ.out.cell (p := ⟨b, off + j * 3, none⟩) HBL.out).trans (HC.out j hlt).1
     have p1 : wr.cell? ⟨b, off + j * 3 + 1, none⟩ = some (.int .i64 (v j)) := (HBJ.out.cell (p := ⟨b, off + j * 3 + 1, none⟩) HBL.out).trans (HC.out j hlt).2.1
     have p2 : wr.cell? ⟨b, off + j * 3 + 2, none⟩ = some (.slice (Q j).1 (Q j).2.1 (Q j).2.2) := (HBJ.out.cell (p := ⟨b, off + j * 3 + 2, none⟩) HBL.out).trans (HC.out j hlt).2.2
     have hq0 := HQ.out j hlt
     rw [hq0] at p2
     clear hq0
     have hms := η (show k - (intOf (.int .i64 ((j : Int) + 1))).toNat < k - (intOf (.int .i64 (j : Int))).toNat from by simp [intOf]; omega)
     have HRG := η (HO.out.range hlt)
     have c2 := HXJ.out.cell 2 (v := .slice (some ⟨b, off, none⟩) k c) rfl
     have e1 := Jq (x := v j) HRG.out.1 (by have := HRG.out.2.1; omega)
     have e2 : IntKind.i64.wrap (v j + 128) = v j + 128 := by have := HRG.out; rw [IntKind.wrap_i64]; omega
     have e3 := Jq (x := v j + 128) (by have := HRG.out.1; omega) (by have := HRG.out.2.1; omega)
     have HLN := η (show (4 :: (k : Int) :: codL d v j).length = j + 2 from by simp [Jn])
     cases hd : d j
     ·have HCB := η (show codB d v j = v j from by unfold codB; rw [hd]; rfl)
      rw [hd] at p0
      clear hd
      go_wp2_with (at_builtin; refine wpList_append_own _ rfl _ _ 24 rfl w.heap.size 5 i0 (.int .u8 0) 1 1 Tryz.underlying24 hi0 hz0 hz1 hz2 rfl (by decide) _ _ _ rfl (HOW.out.alloc (.cells #[.int .u8 (v j)] 5)) ⟨wr.heap.size, 0, none⟩ 1 1 [.int .u8 (v j)] rfl rfl ?c1 ?c2 ?c3 ?c4 ?c5 ?_)
      case c1 => exact Jo (by simp) _ _
      case c2 => simp [Value.oneCell']
      case c3 => have := HLN.out; first | decide | (unfold maxLen; omega)
      case c4 => have := HLN.out; first | decide | omega
      case c5 => (simp; omega)
      intro v' w' hown2 hgrow _
      have HF9 := η ((HFR.out.alloc hsz (.cells #[.int .u8 (v j)] 5)).grown hgrow (HOW.out.alloc (.cells #[.int .u8 (v j)] 5)) (Nat.le_trans hsz (by simp)))
      have HO9 := η (show OwB w' w.heap.size v' (4 :: (k : Int) :: codL d v (j + 1)) from by
       have h := OwB.snoc (l := (4 :: (k : Int) :: codL d v j)) hown2 rfl
       rw [codL, HCB.out]; exact h)
      clear hown2 hgrow
      go_wp2_with fail
      go_roundw
      case rel => exact ⟨j + 1, hlt, by go_num, HO9.out, HF9.out⟩
      case measure => exact hms.out
     ·have HCB := η (show codB d v j = v j + 128 from by unfold codB; rw [hd]; rfl)
      rw [hd] at p0
      clear hd
      go_wp2_with (at_builtin; refine wpList_append_own _ rfl _ _ 24 rfl w.heap.size 5 i0 (.int .u8 0) 1 1 Tryz.underlying24 hi0 hz0 hz1 hz2 rfl (by decide) _ _ _ rfl (HOW.out.alloc (.cells #[.int .u8 (v j + 128)] 5)) ⟨wr.heap.size, 0, none⟩ 1 1 [.int .u8 (v j + 128)] rfl rfl ?c1 ?c2 ?c3 ?c4 ?c5 ?_)
      case c1 => exact Jo (by simp) _ _
      case c2 => simp [Value.oneCell']
      case c3 => have := HLN.out; first | decide | (unfold maxLen; omega)
      case c4 => have := HLN.out; first | decide | omega
      case c5 => (simp; omega)
      intro v' w' hown2 hgrow _
      have HF9 := η ((HFR.out.alloc hsz (.cells #[.int .u8 (v j + 128)] 5)).grown hgrow (HOW.out.alloc (.cells #[.int .u8 (v j + 128)] 5)) (Nat.le_trans hsz (by simp)))
      have HO9 := η (show OwB w' w.heap.size v' (4 :: (k : Int) :: codL d v (j + 1)) from by
       have h := OwB.snoc (l := (4 :: (k : Int) :: codL d v j)) hown2 rfl
       rw [codL, HCB.out]; exact h)
      clear hown2 hgrow
      go_wp2_with fail
      go_roundw
      case rel => exact ⟨j + 1, hlt, by go_num, HO9.out, HF9.out⟩
      case measure => exact hms.out
    ·obtain rfl : j = k := by omega
     have c0 := HXJ.out.cell 0 (v := .int .i64 4) rfl
     have c1 := HXJ.out.cell 1 (v := .int .i64 0) rfl
     have c2 := HXJ.out.cell 2 (v := .slice (some ⟨b, off, none⟩) j c) rfl
     have c3 := HXJ.out.cell 3 (v := .int .i64 0) rfl
     go_wp2_with fail
     go_ret2
     exact ⟨⟨_, rfl, by have := HOW.out; unfold hdrB ptsN; simpa using this⟩, HBJ.out⟩
set_option maxRecDepth 100000 in
theorem Zc2 (p : Int) (hp1 : 1 ≤ p) (hp2 : p ≤ 4096) (A : Option Addr) (n c : Nat) (d : Nat → Bool) (v : Nat → Int) (Q : Nat → Option Addr × Nat × Nat) (ho : OkK n v) (hq : ∀ k, k < n → (Q k).2.1 = 0) (w : World) (hr : Rgs w A n c d v Q) :
  Calls Tryz.prog 43 #[.agg #[.int .i64 5, .int .i64 0, .slice A n c, .int .i64 p]] w fun e w' => (∃ v', e = .returned (.tuple #[v', .int .i64 0]) ∧ OwB w' w.heap.size v' (hdrB 5 n d v p)) ∧ Below w.heap.size w w' := by
 obtain ⟨i0, hi0, hz0, hz1, hz2⟩ := info_parts Zbh
 have HR := η hr; have HO := η ho; have HQ := η hq
 have hcp := hr.cap
 have hmx := hr.max
 have h1 := ho.pos
 have h2 := ho.le
 clear hr ho hq
 unfold maxLen at hmx
 obtain ⟨b, off, rfl, hbl, hc⟩ := HR.out.at_ (by omega)
 have HC := η hc; have HBL := η hbl; clear hc hbl
 go_enter Tryz.func43, Tryz.ntmps43
 go_wp2_with fail
 have HX := η (Bx.new w #[.int .i64 5, .int .i64 0, .slice (some ⟨b, off, none⟩) n c, .int .i64 p] 28)
 have HB1 := η (show Below w.heap.size w (w.alloc (.cells #[.int .i64 5, .int .i64 0, .slice (some ⟨b, off, none⟩) n c, .int .i64 p] 28)) from J8 J0)
 generalize w.alloc (.cells #[.int .i64 5, .int .i64 0, .slice (some ⟨b, off, none⟩) n c, .int .i64 p] 28) = w1 at *
 have c0 := HX.out.cell 0 (v := .int .i64 5) rfl
 have c1 := HX.out.cell 1 (v := .int .i64 0) rfl
 have c2 := HX.out.cell 2 (v := .slice (some ⟨b, off, none⟩) n c) rfl
 have c3 := HX.out.cell 3 (v := .int .i64 p) rfl
 go_wp2_with fail
 clear c0 c1 c2 c3
 go_loopw [4] (fun ir wr => ∃ k : Nat, k ≤ n ∧ ir = .int .i64 (k : Int) ∧ Below w1.heap.size w1 wr) (fun i _ => n - (intOf i).toNat)
 case atStart => exact ⟨0, by omega, rfl, J0⟩
 case round =>
  obtain ⟨k, hk, rfl, hb_⟩ := hrel
  have HBR := η hb_; clear hb_
  have HXR := η (HX.out.below HBR.out ν)
  have HB := η (HB1.out.trans (HBR.out.mono HB1.out.size))
  by_cases hlt : k < n
  ·have p0 : wr.cell? ⟨b, off + k * 3, none⟩ = some (.bool (d k)) := (HB.out.cell (p := ⟨b, off + k * 3, none⟩) HBL.out).trans (HC.out k hlt).1
   have p1 : wr.cell? ⟨b, off + k * 3 + 1, none⟩ = some (.int .i64 (v k)) := (HB.out.cell (p := ⟨b, off + k * 3 + 1, none⟩) HBL.out).trans (HC.out k hlt).2.1
   have p2 : wr.cell? ⟨b, off + k * 3 + 2, none⟩ = some (.slice (Q k).1 (Q k).2.1 (Q k).2.2) := (HB.out.cell (p := ⟨b, off + k * 3 + 2, none⟩) HBL.out).trans (HC.out k hlt).2.2
   have hms := η (show n - (intOf (.int .i64 ((k : Int) + 1))).toNat < n - (intOf (.int .i64 (k : Int))).toNat from by simp [intOf]; omega)
   have hz := HO.out.kind k hlt
   have c2 := HXR.out.cell 2 (v := .slice (some ⟨b, off, none⟩) n c) rfl
   go_wp2_with fail
   clear p0 p1 p2 c2
   refine (Zb0 (v k) _).mono ?_
   rintro e w5 ⟨rfl, rfl⟩
   go_wp2_with fail
   go_roundw
   case rel => exact ⟨k + 1, hlt, by go_num, HBR.out⟩
   case measure => exact hms.out
  ·obtain rfl : k = n := by omega
   have c0 := HXR.out.cell 0 (v := .int .i64 5) rfl
   have c1 := HXR.out.cell 1 (v := .int .i64 0) rfl
   have c2 := HXR.out.cell 2 (v := .slice (some ⟨b, off, none⟩) k c) rfl
   have c3 := HXR.out.cell 3 (v := .int .i64 p) rfl
   have hxlt := HXR.out.lt
   have hsz := HB.out.size
   have en := Jq (x := (k : Int)) (by omega) (by omega)
   have HO1 := η (show OwB (wr.alloc (.cells #[.int .u8 5] 5)) w.heap.size (.slice (some ⟨wr.heap.size, 0, none⟩) 1 1) [5] from ⟨rfl, .inr ⟨wr.heap.size, 1, #[.int .u8 5], rfl, hsz, Bx.new _ _ _, Nat.le_refl _, by decide, rfl, rfl⟩⟩)
   go_wp2_with (at_builtin; refine wpList_append_own _ rfl _ _ 24 rfl w.heap.size 5 i0 (.int .u8 0) 1 1 Tryz.underlying24 hi0 hz0 hz1 hz2 rfl (by decide) _ _ _ rfl (HO1.out.alloc _) ⟨wr.heap.size + 1, 0, none⟩ 1 1 [.int .u8 (k : Int)] rfl rfl ?c1 ?c2 ?c3 ?c4 ?c5 ?_)
   case c1 => exact Jo (by simp) _ _
   case c2 => simp [Value.oneCell']
   case c3 => skip; first | decide | (unfold maxLen; omega)
   case c4 => skip; first | decide | omega
   case c5 => first | (simp; done) | (simp; omega)
   intro v' w' hown2 hgrow _
   have HF3 := η ((((Fr.refl w.heap.size none wr).alloc hsz (.cells #[.int .u8 5] 5)).alloc (Nat.le_trans hsz (by simp)) (.cells #[.int .u8 (k : Int)] 5)).grown hgrow (HO1.out.alloc _) (Nat.le_trans hsz (by simp; omega)))
   have HO3 := η (show OwB w' w.heap.size v' (5 :: (k : Int) :: codL d v 0) from OwB.snoc (l := [5]) hown2 rfl)
   clear hown2 hgrow HO1 c0 c1 c2 c3 en hxlt hsz
   have HX3 := η (HF3.out.keep _ _ _ (by decide) (by simp) HXR.out)
   have c0 := HX3.out.cell 0 (v := .int .i64 5) rfl
   have c1 := HX3.out.cell 1 (v := .int .i64 0) rfl
   have c2 := HX3.out.cell 2 (v := .slice (some ⟨b, off, none⟩) k c) rfl
   have c3 := HX3.out.cell 3 (v := .int .i64 p) rfl
   go_wp2_with fail
   clear c0 c1 c2 c3
   generalize wr = wq at *
   go_loopw [5, 6] (fun vr ir wx => ∃ j : Nat, j ≤ k ∧ ir = .int .i64 (j : Int) ∧ OwB wx w.heap.size vr (5 :: (k : Int) :: codL d v j) ∧ Fr w.heap.size none wq wx) (fun _ i _ => k - (intOf i).toNat)
   case atStart => exact ⟨0, by omega, rfl, HO3.out, HF3.out⟩
   case round =>
    obtain ⟨j, hj, rfl, hown, hfr⟩ := hrel
    have HOW := η hown; have HFR := η hfr; clear hown hfr
    have HBJ := η (HB.out.trans HFR.out.below)
    have HXJ := η (HFR.out.keep _ _ _ (by decide) (by simp) HXR.out)
    have hsz := HBJ.out.size
    have hxlt := HXJ.out.lt
    by_cases hlt : j < k
    ·have p0 : wr.cell? ⟨b, off + j * 3, none⟩ = some (.bool (d j)) := (HBJ.out.cell (p := ⟨b, off + j * 3, none⟩) HBL.out).trans (HC.out j hlt).1
     have p1 : wr.cell? ⟨b, off + j * 3 + 1, none⟩ = some (.int .i64 (v j)) := (HBJ.out.cell (p := ⟨b, off + j * 3 + 1, none⟩) HBL.out).trans (HC.out j hlt).2.1
     have p2 : wr.cell? ⟨b, off + j * 3 + 2, none⟩ = some (.slice (Q j).1 (Q j).2.1 (Q j).2.2) := (HBJ.out.cell (p := ⟨b, off + j * 3 + 2, none⟩) HBL.out).trans (HC.out j hlt).2.2
     have hq0 := HQ.out j hlt
     rw [hq0] at p2
     clear hq0
     have hms := η (show k - (intOf (.int .i64 ((j : Int) + 1))).toNat < k - (intOf (.int .i64 (j : Int))).toNat from by simp [intOf]; omega)
     have HRG := η (HO.out.range hlt)
     have c2 := HXJ.out.cell 2 (v := .slice (some ⟨b, off, none⟩) k c) rfl
     have e1 := Jq (x := v j) HRG.out.1 (by have := HRG.out.2.1; omega)
     have e2 : IntKind.i64.wrap (v j + 128) = v j + 128 := by have := HRG.out; rw [IntKind.wrap_i64]; omega
     have e3 := Jq (x := v j + 128) (by have := HRG.out.1; omega) (by have := HRG.out.2.1; omega)
     have HLN := η (show (5 :: (k : Int) :: codL d v j).length = j + 2 from by simp [Jn])
     cases hd : d j
     ·have HCB := η (show codB d v j = v j from by unfold codB; rw [hd]; rfl)
      rw [hd] at p0
      clear hd
      go_wp2_with (at_builtin; refine wpList_append_own _ rfl _ _ 24 rfl w.heap.size 5 i0 (.int .u8 0) 1 1 Tryz.underlying24 hi0 hz0 hz1 hz2 rfl (by decide) _ _ _ rfl (HOW.out.alloc (.cells #[.int .u8 (v j)] 5)) ⟨wr.heap.size, 0, none⟩ 1 1 [.int .u8 (v j)] rfl rfl ?c1 ?c2 ?c3 ?c4 ?c5 ?_)
      case c1 => exact Jo (by simp) _ _
      case c2 => simp [Value.oneCell']
      case c3 => have := HLN.out; first | decide | (unfold maxLen; omega)
      case c4 => have := HLN.out; first | decide | omega
      case c5 => (simp; omega)
      intro v' w' hown2 hgrow _
      have HF9 := η ((HFR.out.alloc hsz (.cells #[.int .u8 (v j)] 5)).grown hgrow (HOW.out.alloc (.cells #[.int .u8 (v j)] 5)) (Nat.le_trans hsz (by simp)))
      have HO9 := η (show OwB w' w.heap.size v' (5 :: (k : Int) :: codL d v (j + 1)) from by
       have h := OwB.snoc (l := (5 :: (k : Int) :: codL d v j)) hown2 rfl
       rw [codL, HCB.out]; exact h)
      clear hown2 hgrow
      go_wp2_with fail
      go_roundw
      case rel => exact ⟨j + 1, hlt, by go_num, HO9.out, HF9.out⟩
      case measure => exact hms.out
     ·have HCB := η (show codB d v j = v j + 128 from by unfold codB; rw [hd]; rfl)
      rw [hd] at p0
      clear hd
      go_wp2_with (at_builtin; refine wpList_append_own _ rfl _ _ 24 rfl w.heap.size 5 i0 (.int .u8 0) 1 1 Tryz.underlying24 hi0 hz0 hz1 hz2 rfl (by decide) _ _ _ rfl (HOW.out.alloc (.cells #[.int .u8 (v j + 128)] 5)) ⟨wr.heap.size, 0, none⟩ 1 1 [.int .u8 (v j + 128)] rfl rfl ?c1 ?c2 ?c3 ?c4 ?c5 ?_)
      case c1 => exact Jo (by simp) _ _
      case c2 => simp [Value.oneCell']
      case c3 => have := HLN.out; first | decide | (unfold maxLen; omega)
      case c4 => have := HLN.out; first | decide | omega
      case c5 => (simp; omega)
      intro v' w' hown2 hgrow _
      have HF9 := η ((HFR.out.alloc hsz (.cells #[.int .u8 (v j + 128)] 5)).grown hgrow (HOW.out.alloc (.cells #[.int .u8 (v j + 128)] 5)) (Nat.le_trans hsz (by simp)))
      have HO9 := η (show OwB w' w.heap.size v' (5 :: (k : Int) :: codL d v (j + 1)) from by
       have h := OwB.snoc (l := (5 :: (k : Int) :: codL d v j)) hown2 rfl
       rw [codL, HCB.out]; exact h)
      clear hown2 hgrow
      go_wp2_with fail
      go_roundw
      case rel => exact ⟨j + 1, hlt, by go_num, HO9.out, HF9.out⟩
      case measure => exact hms.out
    ·obtain rfl : j = k := by omega
     have c0 := HXJ.out.cell 0 (v := .int .i64 5) rfl
     have c1 := HXJ.out.cell 1 (v := .int .i64 0) rfl
     have c2 := HXJ.out.cell 2 (v := .slice (some ⟨b, off, none⟩) j c) rfl
     have c3 := HXJ.out.cell 3 (v := .int .i64 p) rfl
     have HLN := η (show ((5 :: (j : Int) :: codL d v j)).length = j + 2 from by simp [Jn])
     have e1 : p.tmod 256 = p % 256 := Int.tmod_eq_emod_of_nonneg (by omega)
     have e2 : p.tdiv 256 = p / 256 := Int.tdiv_eq_ediv_of_nonneg (by omega)
     have e3 : IntKind.i64.wrap (p % 256) = p % 256 := by rw [IntKind.wrap_i64]; omega
     have e4 : IntKind.i64.wrap (p / 256) = p / 256 := by rw [IntKind.wrap_i64]; omega
     have e5 : IntKind.u8.wrap (p % 256) = p % 256 := Jq (by omega) (by omega)
     have e6 : IntKind.u8.wrap (p / 256) = p / 256 := Jq (by omega) (by omega)
     have e7 : IntKind.u8.wrap p = p % 256 := IntKind.wrap_u8 p
     go_wp2_with (at_builtin; refine wpList_append_own _ rfl _ _ 24 rfl w.heap.size 5 i0 (.int .u8 0) 1 1 Tryz.underlying24 hi0 hz0 hz1 hz2 rfl (by decide) _ _ _ rfl (HOW.out.alloc (.cells #[.int .u8 (p % 256), .int .u8 (p / 256)] 5)) ⟨wr.heap.size, 0, none⟩ 2 2 [.int .u8 (p % 256), .int .u8 (p / 256)] rfl rfl ?c1 ?c2 ?c3 ?c4 ?c5 ?_)
     case c1 => exact JE rfl _ _ _
     case c2 => simp [Value.oneCell']
     case c3 => have := HLN.out; first | decide | (unfold maxLen; omega)
     case c4 => have := HLN.out; first | decide | omega
     case c5 => (simp; omega)
     intro v' w' hown2 hgrow _
     have HF9 := η ((HFR.out.alloc hsz (.cells #[.int .u8 (p % 256), .int .u8 (p / 256)] 5)).grown hgrow (HOW.out.alloc (.cells #[.int .u8 (p % 256), .int .u8 (p / 256)] 5)) (Nat.le_trans hsz (by simp)))
     have HO9 := η (show OwB w' w.heap.size v' (hdrB 5 j d v p) from OwB.snoc2 (l := (5 :: (j : Int) :: codL d v j)) hown2 rfl)
     clear hown2 hgrow
     go_wp2_with fail
     go_ret2
     exact ⟨⟨_, rfl, HO9.out⟩, HB.out.trans HF9.out.below⟩
set_option maxRecDepth 100000 in
theorem Zbv (base : Nat) (v : Value) (l : List Int) (x y : Int) (hl : l.length ≤ 900000) (w : World) (hb : base ≤ w.heap.size) (ho : OwB w base v l) :
  Calls Tryz.prog 52 #[v, .agg #[.int .i64 x, .int .i64 y]] w fun e w' => (∃ v', e = .returned v' ∧ OwB w' base v' (l ++ ptB x y)) ∧ Fr base none w w' := by
 have HLL := η hl; have HO := η ho; clear hl ho
 go_enter Tryz.func52, Tryz.ntmps52
 go_wp2_with fail
 have HX := η (Bx.new w #[.int .i64 x, .int .i64 y] 23)
 have HO1 := η (HO.out.alloc (.cells #[.int .i64 x, .int .i64 y] 23))
 have F1 := η ((Fr.refl base none w).alloc hb (.cells #[.int .i64 x, .int .i64 y] 23))
 have hb1 : base ≤ (w.alloc (.cells #[.int .i64 x, .int .i64 y] 23)).heap.size := Nat.le_trans hb F1.out.size
 have HB1 := η hb1
 clear hb1 HO
 generalize w.alloc (.cells #[.int .i64 x, .int .i64 y] 23) = w1 at *
 have QC := η (show ∀ w', Bx w' w.heap.size #[.int .i64 x, .int .i64 y] 23 → w'.cell? ⟨w.heap.size, 0, none⟩ = some (.int .i64 x) ∧ w'.cell? ⟨w.heap.size, 1, none⟩ = some (.int .i64 y) from fun w' h => ⟨h.cell 0 rfl, h.cell 1 rfl⟩)
 refine wp_region_held_drew (S := fun w' => w'.cell? ⟨w.heap.size, 0, none⟩ = some (.int .i64 x) ∧ w'.cell? ⟨w.heap.size, 1, none⟩ = some (.int .i64 y)) (by kernel_rfl) (QC.out _ HX.out) (fun hHeld => ?_)
 refine tk 0 hHeld ?_
 refine tk 1 hHeld ?_
 refine tk 2 hHeld ?_
 refine tk 3 hHeld ?_
 refine tk 5 hHeld ?_
 refine tk 6 hHeld ?_
 refine tk 7 hHeld ?_
 refine cl 4 (fun K hK => ?_)
 go_simp
 refine (ZaZ base v l (IntKind.u64.wrap x) (JO _) (by have := HLL.out; omega) w1.drew HB1.out HO1.out.drew).mono ?_
 rintro e w2 ⟨⟨v2, rfl, h2⟩, g2⟩
 have HO2 := η h2; have F2 := η (F1.out.drew.trans g2); have HX2 := η (g2.keep _ _ _ (by decide) (by simp) (Jf HX.out)); have HB2 := η (Nat.le_trans HB1.out g2.size); clear h2 g2
 go_wp2_with fail
 refine hK.out _ _ (QC.out _ HX2.out) (fun hHeld2 => ?_)
 clear hK K hHeld; have hHeld := hHeld2; clear hHeld2
 try simp only [Act.put, List.setIfInBounds_toArray, List.set_cons_zero, List.set_cons_succ]
 refine cl 8 (fun K hK => ?_)
 go_simp
 refine (ZaZ base v2 _ (IntKind.u64.wrap y) (JO _) (by have := HLL.out; simp [ZaH]; omega) _ HB2.out HO2.out).mono ?_
 rintro e w3 ⟨⟨v3, rfl, h3⟩, g3⟩
 have HO3 := η h3; have F3 := η (F2.out.trans g3); have HX3 := η (g3.keep _ _ _ (by decide) (by simp) HX2.out); clear h3 g3
 go_wp2_with fail
 refine hK.out _ _ (QC.out _ HX3.out) (fun hHeld2 => ?_)
 clear hK K hHeld; have hHeld := hHeld2; clear hHeld2
 try simp only [Act.put, List.setIfInBounds_toArray, List.set_cons_zero, List.set_cons_succ]
 refine tk 9 hHeld ?_
 refine wpAnyH_done (by kernel_rfl) ?_ _
 clear hHeld
 go_wp2_with fail
 go_ret
 refine ⟨⟨_, rfl, ?_⟩, F3.out⟩
 have := HO3.out
 rw [wrapU, wrapU, List.append_assoc] at this
 exact this

end Go.Proofs.YtjdiilkljgljkaaGreatDoor
