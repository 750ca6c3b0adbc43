/- The reference's codec at requests without regions: header, counts, encoding. Contract of the codec's Encode at requests without regions. The table of operations: a map from numbers to functions, made and asked. Contracts of slices.Clone at words, limb.Extend and limb.From: an integer of m limbs becomes one of n limbs with the same value, or is cut. Contracts of limb.Add, limb.Sub and limb.Neg: the limbs of the sum, the difference and the negation. The contract of limb.Mul: the limbs of the product. Contracts of package diff: Coordinate, Between, the products, Neg. An integer of two limbs is a difference of coordinates. Contracts of limb.Sign and limb.Select. Contracts of the reference's sums and differences of magnitudes (geofenceref03.addDigits, subDigits). -/
import Derived.Test.YtjdiilkljgljkaaGreatDoorMb
import Derived.MapKept
import Derived.Test.YtjdiilkljgljkaaGreatDoorMa
import Derived.WalkSpells
import Derived.Deep.AppendLies
import Derived.Deep.RegionHeld3
import Derived.Deep.RegionWith
namespace Go.Proofs.YtjdiilkljgljkaaGreatDoor
set_option linter.unusedVariables false
set_option linter.unusedSimpArgs false
open Go.RowKit Wd

set_option maxHeartbeats 4000000 in
set_option maxRecDepth 100000 in
theorem ref17_Format12 (op : Int) (ho : op = 1 ∨ op = 2) (w : World) :
    Calls Tryz.prog 43 #[.agg #[.int .i64 op, .int .i64 0, .slice none 0 0, .int .i64 0]] w fun e w' => (∃ v, e = .returned (.tuple #[v, .int .i64 0]) ∧ OwB w' w.heap.size v [op]) ∧ Below w.heap.size w w' := by
  rcases ho with rfl | rfl
  · go_enter Tryz.func43, Tryz.ntmps43
    go_wp2_with fail
    have HX := Lib.hid (Bx.new w #[.int .i64 1, .int .i64 0, .slice none 0 0, .int .i64 0] 28)
    have HB1 := Lib.hid (show Below w.heap.size w (w.alloc (.cells #[.int .i64 1, .int .i64 0, .slice none 0 0, .int .i64 0] 28)) from below_al below_rf)
    have HO := Lib.hid (show OwB ((w.alloc (.cells #[.int .i64 1, .int .i64 0, .slice none 0 0, .int .i64 0] 28)).alloc (.cells #[.int .u8 1] 5)) w.heap.size (.slice (some ⟨w.heap.size + 1, 0, none⟩) 1 1) [1] from ⟨rfl, .inr ⟨w.heap.size + 1, 1, #[.int .u8 1], rfl, by omega, bx_new (by simp), Nat.le_refl _, by decide, rfl, rfl⟩⟩)
    have HB3 := Lib.hid (HB1.out.alloc HB1.out.size (.cells #[.int .u8 1] 5))
    refine wp_loop_rounds 1 ?_
    rw [rounds_succ]
    go_wp2_with fail
    go_ret2
    exact ⟨⟨_, rfl, HO.out⟩, HB3.out⟩
  · go_enter Tryz.func43, Tryz.ntmps43
    go_wp2_with fail
    have HX := Lib.hid (Bx.new w #[.int .i64 2, .int .i64 0, .slice none 0 0, .int .i64 0] 28)
    have HB1 := Lib.hid (show Below w.heap.size w (w.alloc (.cells #[.int .i64 2, .int .i64 0, .slice none 0 0, .int .i64 0] 28)) from below_al below_rf)
    have HO := Lib.hid (show OwB ((w.alloc (.cells #[.int .i64 2, .int .i64 0, .slice none 0 0, .int .i64 0] 28)).alloc (.cells #[.int .u8 2] 5)) w.heap.size (.slice (some ⟨w.heap.size + 1, 0, none⟩) 1 1) [2] from ⟨rfl, .inr ⟨w.heap.size + 1, 1, #[.int .u8 2], rfl, by omega, bx_new (by simp), Nat.le_refl _, by decide, rfl, rfl⟩⟩)
    have HB3 := Lib.hid (HB1.out.alloc HB1.out.size (.cells #[.int .u8 2] 5))
    refine wp_loop_rounds 1 ?_
    rw [rounds_succ]
    go_wp2_with fail
    go_ret2
    exact ⟨⟨_, rfl, HO.out⟩, HB3.out⟩
set_option maxHeartbeats 4000000 in
set_option maxRecDepth 100000 in
theorem ref18_Counts12 (op : Int) (ho : op = 1 ∨ op = 2) (w : World) :
    Calls Tryz.prog 51 #[.agg #[.int .i64 op, .int .i64 0, .slice none 0 0, .int .i64 0]] w fun e w' => e = .returned (.tuple #[.int .i64 (op + 2), .int .i64 0]) ∧ Below w.heap.size w w' := by
  rcases ho with rfl | rfl
  · go_enter Tryz.func51, Tryz.ntmps51
    go_wp2_with fail
    go_ret2
    exact ⟨rfl, below_al below_rf⟩
  · go_enter Tryz.func51, Tryz.ntmps51
    go_wp2_with fail
    go_ret2
    exact ⟨rfl, below_al below_rf⟩
set_option maxHeartbeats 4000000 in
set_option maxRecDepth 100000 in
theorem ref18_Encode12 (op : Int) (ho : op = 1 ∨ op = 2) (A : Option Addr) (c : Nat) (f g : Nat → Int) (w : World) (hp : Pts w A (op + 2).toNat c f g) :
    Calls Tryz.prog 29 #[.agg #[.int .i64 op, .int .i64 0, .slice none 0 0, .int .i64 0, .slice none 0 0, .slice A (op + 2).toNat c, .slice none 0 0]] w fun e w' => (∃ v, e = .returned (.tuple #[v, .int .i64 0]) ∧ OwB w' w.heap.size v (op :: ptsB f g (op + 2).toNat)) ∧ Below w.heap.size w w' := by
  rcases ho with rfl | rfl
  · have HP := Lib.hid (show Pts w A 3 c f g from hp); clear hp
    rw [show ((1 : Int) + 2).toNat = 3 from rfl]
    go_enter Tryz.func29, Tryz.ntmps29
    go_wp2_with fail
    have HX := Lib.hid (Bx.new w #[.int .i64 1, .int .i64 0, .slice none 0 0, .int .i64 0, .slice none 0 0, .slice A 3 c, .slice none 0 0] 32)
    have HP1 := Lib.hid (HP.out.alloc (.cells #[.int .i64 1, .int .i64 0, .slice none 0 0, .int .i64 0, .slice none 0 0, .slice A 3 c, .slice none 0 0] 32))
    have HB1 := Lib.hid (show Below w.heap.size w (w.alloc (.cells #[.int .i64 1, .int .i64 0, .slice none 0 0, .int .i64 0, .slice none 0 0, .slice A 3 c, .slice none 0 0] 32)) from below_al below_rf)
    generalize w.alloc (.cells #[.int .i64 1, .int .i64 0, .slice none 0 0, .int .i64 0, .slice none 0 0, .slice A 3 c, .slice none 0 0] 32) = w1 at *
    clear HP
    have c0 := HX.out.cell 0 (v := .int .i64 1) rfl
    have c1 := HX.out.cell 1 (v := .int .i64 0) rfl
    have c2 := HX.out.cell 2 (v := .slice none 0 0) rfl
    have c3 := HX.out.cell 3 (v := .int .i64 0) rfl
    have c4 := HX.out.cell 4 (v := .slice none 0 0) rfl
    have c5 := HX.out.cell 5 (v := .slice A 3 c) rfl
    have c6 := HX.out.cell 6 (v := .slice none 0 0) rfl
    go_wp2_with fail
    clear c0 c1 c2 c3 c4 c5 c6
    refine (ref17_Format12 1 (by decide) _).mono ?_
    rintro e w2 ⟨⟨v, rfl, ho2⟩, B⟩
    obtain ⟨A', c', rfl⟩ := ho2.slice
    rw [show [(1 : Int)].length = 1 from rfl] at ho2
    rw [show [(1 : Int)].length = 1 from rfl]
    have HX2 := Lib.hid (HX.out.below B (Nat.le_refl _)); have HB12 := Lib.hid B; have HO2 := Lib.hid ho2; clear B ho2
    have c0 := HX2.out.cell 0 (v := .int .i64 1) rfl
    have c1 := HX2.out.cell 1 (v := .int .i64 0) rfl
    have c2 := HX2.out.cell 2 (v := .slice none 0 0) rfl
    have c3 := HX2.out.cell 3 (v := .int .i64 0) rfl
    have c4 := HX2.out.cell 4 (v := .slice none 0 0) rfl
    have c5 := HX2.out.cell 5 (v := .slice A 3 c) rfl
    have c6 := HX2.out.cell 6 (v := .slice none 0 0) rfl
    go_wp2_with fail
    clear c0 c1 c2 c3 c4 c5 c6
    refine (ref18_Counts12 1 (by decide) _).mono ?_
    rintro e w3 ⟨rfl, B⟩
    have HX3 := Lib.hid (HX2.out.below B (Nat.le_refl _)); have HB13 := Lib.hid (HB12.out.trans (B.mono HB12.out.size)); have HO3 := Lib.hid (HO2.out.below B (Nat.le_refl _)); clear B HX2 HB12 HO2
    rw [show (1 : Int) + 2 = 3 from rfl]
    have hcp := HP1.out.cap; have hmx := HP1.out.max
    unfold maxLen at hmx
    have c0 := HX3.out.cell 0 (v := .int .i64 1) rfl
    have c1 := HX3.out.cell 1 (v := .int .i64 0) rfl
    have c2 := HX3.out.cell 2 (v := .slice none 0 0) rfl
    have c3 := HX3.out.cell 3 (v := .int .i64 0) rfl
    have c4 := HX3.out.cell 4 (v := .slice none 0 0) rfl
    have c5 := HX3.out.cell 5 (v := .slice A 3 c) rfl
    have c6 := HX3.out.cell 6 (v := .slice none 0 0) rfl
    go_wp2_with fail
    refine wp_loop_rounds 1 ?_
    rw [rounds_succ]
    go_wp2_with fail
    refine wp_loop_rounds 1 ?_
    rw [rounds_succ]
    go_wp2_with fail
    clear c0 c1 c2 c3 c4 c5 c6
    go_loopw [4, 11] (fun br ir wr => ∃ k : Nat, k ≤ 3 ∧ ir = .int .i64 (k : Int) ∧ OwB wr w1.heap.size br (1 :: ptsB f g k) ∧ Fr w1.heap.size none w3 wr) (fun _ i _ => 3 - (intOf i).toNat)
    case atStart => exact ⟨0, Nat.zero_le _, rfl, HO3.out, Fr.refl _ _ _⟩
    case round =>
      obtain ⟨k, hk, rfl, hown, hfr⟩ := hrel
      have HOW := Lib.hid hown; have HFR := Lib.hid hfr; clear hown hfr
      have HXr := Lib.hid (HFR.out.keep _ _ _ (by decide) (by simp) HX3.out)
      by_cases hlt : k < 3
      · obtain ⟨b, off, rfl, hbl, hc⟩ := HP1.out.at_ (by omega)
        have hB := HB13.out.trans HFR.out.below
        have p0 : wr.cell? ⟨b, off + k * 2, none⟩ = some (.int .i64 (f k)) := (hB.cell (p := ⟨b, off + k * 2, none⟩) hbl).trans (hc k hlt).1
        have p1 : wr.cell? ⟨b, off + k * 2 + 1, none⟩ = some (.int .i64 (g k)) := (hB.cell (p := ⟨b, off + k * 2 + 1, none⟩) hbl).trans (hc k hlt).2
        clear hB hc hbl
        have hms := Lib.hid (show 3 - (intOf (.int .i64 ((k : Int) + 1))).toNat < 3 - (intOf (.int .i64 (k : Int))).toNat from by simp [intOf]; omega)
        have HLK := Lib.hid (show (1 :: ptsB f g k).length ≤ 900000 from by simp [ptsB_len]; omega)
        obtain ⟨Ab, cb, rfl⟩ := HOW.out.slice
        have c5 := HXr.out.cell 5 (v := .slice (some ⟨b, off, none⟩) 3 c) rfl
        go_wp2_with fail
        clear c5 p0 p1
        refine (ref18_point w1.heap.size _ _ (f k) (g k) HLK.out _ (Nat.le_trans HB13.out.size HFR.out.size) HOW.out).mono ?_
        rintro e w4 ⟨⟨v4, rfl, h4⟩, g4⟩
        have HO4 := Lib.hid (show OwB w4 w1.heap.size v4 (1 :: ptsB f g (k + 1)) from by rw [ptsB, ← List.cons_append]; exact h4); have HF4 := Lib.hid (HFR.out.trans g4); clear h4 g4
        go_wp2_with fail
        go_roundw
        case rel => exact ⟨k + 1, hlt, by go_num, HO4.out, HF4.out⟩
        case measure => exact hms.out
      · obtain rfl : k = 3 := by omega
        go_wp2_with fail
        refine wp_loop_rounds 1 ?_
        rw [rounds_succ]
        go_wp2_with fail
        go_ret2
        exact ⟨⟨_, rfl, HOW.out.mono HB1.out.size⟩, HB1.out.trans ((HB13.out.trans HFR.out.below).mono HB1.out.size)⟩
  · have HP := Lib.hid (show Pts w A 4 c f g from hp); clear hp
    rw [show ((2 : Int) + 2).toNat = 4 from rfl]
    go_enter Tryz.func29, Tryz.ntmps29
    go_wp2_with fail
    have HX := Lib.hid (Bx.new w #[.int .i64 2, .int .i64 0, .slice none 0 0, .int .i64 0, .slice none 0 0, .slice A 4 c, .slice none 0 0] 32)
    have HP1 := Lib.hid (HP.out.alloc (.cells #[.int .i64 2, .int .i64 0, .slice none 0 0, .int .i64 0, .slice none 0 0, .slice A 4 c, .slice none 0 0] 32))
    have HB1 := Lib.hid (show Below w.heap.size w (w.alloc (.cells #[.int .i64 2, .int .i64 0, .slice none 0 0, .int .i64 0, .slice none 0 0, .slice A 4 c, .slice none 0 0] 32)) from below_al below_rf)
    generalize w.alloc (.cells #[.int .i64 2, .int .i64 0, .slice none 0 0, .int .i64 0, .slice none 0 0, .slice A 4 c, .slice none 0 0] 32) = w1 at *
    clear HP
    have c0 := HX.out.cell 0 (v := .int .i64 2) rfl
    have c1 := HX.out.cell 1 (v := .int .i64 0) rfl
    have c2 := HX.out.cell 2 (v := .slice none 0 0) rfl
    have c3 := HX.out.cell 3 (v := .int .i64 0) rfl
    have c4 := HX.out.cell 4 (v := .slice none 0 0) rfl
    have c5 := HX.out.cell 5 (v := .slice A 4 c) rfl
    have c6 := HX.out.cell 6 (v := .slice none 0 0) rfl
    go_wp2_with fail
    clear c0 c1 c2 c3 c4 c5 c6
    refine (ref17_Format12 2 (by decide) _).mono ?_
    rintro e w2 ⟨⟨v, rfl, ho2⟩, B⟩
    obtain ⟨A', c', rfl⟩ := ho2.slice
    rw [show [(2 : Int)].length = 1 from rfl] at ho2
    rw [show [(2 : Int)].length = 1 from rfl]
    have HX2 := Lib.hid (HX.out.below B (Nat.le_refl _)); have HB12 := Lib.hid B; have HO2 := Lib.hid ho2; clear B ho2
    have c0 := HX2.out.cell 0 (v := .int .i64 2) rfl
    have c1 := HX2.out.cell 1 (v := .int .i64 0) rfl
    have c2 := HX2.out.cell 2 (v := .slice none 0 0) rfl
    have c3 := HX2.out.cell 3 (v := .int .i64 0) rfl
    have c4 := HX2.out.cell 4 (v := .slice none 0 0) rfl
    have c5 := HX2.out.cell 5 (v := .slice A 4 c) rfl
    have c6 := HX2.out.cell 6 (v := .slice none 0 0) rfl
    go_wp2_with fail
    clear c0 c1 c2 c3 c4 c5 c6
    refine (ref18_Counts12 2 (by decide) _).mono ?_
    rintro e w3 ⟨rfl, B⟩
    have HX3 := Lib.hid (HX2.out.below B (Nat.le_refl _)); have HB13 := Lib.hid (HB12.out.trans (B.mono HB12.out.size)); have HO3 := Lib.hid (HO2.out.below B (Nat.le_refl _)); clear B HX2 HB12 HO2
    rw [show (2 : Int) + 2 = 4 from rfl]
    have hcp := HP1.out.cap; have hmx := HP1.out.max
    unfold maxLen at hmx
    have c0 := HX3.out.cell 0 (v := .int .i64 2) rfl
    have c1 := HX3.out.cell 1 (v := .int .i64 0) rfl
    have c2 := HX3.out.cell 2 (v := .slice none 0 0) rfl
    have c3 := HX3.out.cell 3 (v := .int .i64 0) rfl
    have c4 := HX3.out.cell 4 (v := .slice none 0 0) rfl
    have c5 := HX3.out.cell 5 (v := .slice A 4 c) rfl
    have c6 := HX3.out.cell 6 (v := .slice none 0 0) rfl
    go_wp2_with fail
    refine wp_loop_rounds 1 ?_
    rw [rounds_succ]
    go_wp2_with fail
    refine wp_loop_rounds 1 ?_
    rw [rounds_succ]
    go_wp2_with fail
    clear c0 c1 c2 c3 c4 c5 c6
    go_loopw [4, 11] (fun br ir wr => ∃ k : Nat, k ≤ 4 ∧ ir = .int .i64 (k : Int) ∧ OwB wr w1.heap.size br (2 :: ptsB f g k) ∧ Fr w1.heap.size none w3 wr) (fun _ i _ => 4 - (intOf i).toNat)
    case atStart => exact ⟨0, Nat.zero_le _, rfl, HO3.out, Fr.refl _ _ _⟩
    case round =>
      obtain ⟨k, hk, rfl, hown, hfr⟩ := hrel
      have HOW := Lib.hid hown; have HFR := Lib.hid hfr; clear hown hfr
      have HXr := Lib.hid (HFR.out.keep _ _ _ (by decide) (by simp) HX3.out)
      by_cases hlt : k < 4
      · obtain ⟨b, off, rfl, hbl, hc⟩ := HP1.out.at_ (by omega)
        have hB := HB13.out.trans HFR.out.below
        have p0 : wr.cell? ⟨b, off + k * 2, none⟩ = some (.int .i64 (f k)) := (hB.cell (p := ⟨b, off + k * 2, none⟩) hbl).trans (hc k hlt).1
        have p1 : wr.cell? ⟨b, off + k * 2 + 1, none⟩ = some (.int .i64 (g k)) := (hB.cell (p := ⟨b, off + k * 2 + 1, none⟩) hbl).trans (hc k hlt).2
        clear hB hc hbl
        have hms := Lib.hid (show 4 - (intOf (.int .i64 ((k : Int) + 1))).toNat < 4 - (intOf (.int .i64 (k : Int))).toNat from by simp [intOf]; omega)
        have HLK := Lib.hid (show (2 :: ptsB f g k).length ≤ 900000 from by simp [ptsB_len]; omega)
        obtain ⟨Ab, cb, rfl⟩ := HOW.out.slice
        have c5 := HXr.out.cell 5 (v := .slice (some ⟨b, off, none⟩) 4 c) rfl
        go_wp2_with fail
        clear c5 p0 p1
        refine (ref18_point w1.heap.size _ _ (f k) (g k) HLK.out _ (Nat.le_trans HB13.out.size HFR.out.size) HOW.out).mono ?_
        rintro e w4 ⟨⟨v4, rfl, h4⟩, g4⟩
        have HO4 := Lib.hid (show OwB w4 w1.heap.size v4 (2 :: ptsB f g (k + 1)) from by rw [ptsB, ← List.cons_append]; exact h4); have HF4 := Lib.hid (HFR.out.trans g4); clear h4 g4
        go_wp2_with fail
        go_roundw
        case rel => exact ⟨k + 1, hlt, by go_num, HO4.out, HF4.out⟩
        case measure => exact hms.out
      · obtain rfl : k = 4 := by omega
        go_wp2_with fail
        refine wp_loop_rounds 1 ?_
        rw [rounds_succ]
        go_wp2_with fail
        go_ret2
        exact ⟨⟨_, rfl, HOW.out.mono HB1.out.size⟩, HB1.out.trans ((HB13.out.trans HFR.out.below).mono HB1.out.size)⟩
end Go.Proofs.YtjdiilkljgljkaaGreatDoor
namespace Go.Proofs.YtjdiilkljgljkaaGreatDoor
set_option linter.unusedVariables false
set_option linter.unusedSimpArgs false
open Go.RowKit Wd

set_option maxHeartbeats 4000000 in
set_option maxRecDepth 100000 in
theorem codec_Encode12 (op : Int) (ho : op = 1 ∨ op = 2) (A : Option Addr) (c : Nat) (f g : Nat → Int) (Q : Option Addr) (qc : Nat) (w : World) (hp : Pts w A (op + 2).toNat c f g) :
    Calls Tryz.prog 85 #[.agg #[.int .i64 op, .int .i64 0, .slice none 0 0, .int .i64 0, .slice none 0 0, .slice A (op + 2).toNat c, .slice Q 0 qc]] w fun e w' => (∃ v, e = .returned (.tuple #[v, .int .i64 0])) ∧ Below w.heap.size w w' := by
  rcases ho with rfl | rfl
  · have HP := Lib.hid (show Pts w A 3 c f g from hp); clear hp
    rw [show ((1 : Int) + 2).toNat = 3 from rfl]
    go_enter Tryz.func85, Tryz.ntmps85
    go_wp2_with fail
    have HX := Lib.hid (Bx.new w #[.int .i64 1, .int .i64 0, .slice none 0 0, .int .i64 0, .slice none 0 0, .slice A 3 c, .slice Q 0 qc] 99)
    have HP1 := Lib.hid (HP.out.alloc (.cells #[.int .i64 1, .int .i64 0, .slice none 0 0, .int .i64 0, .slice none 0 0, .slice A 3 c, .slice Q 0 qc] 99))
    have HB1 := Lib.hid (show Below w.heap.size w (w.alloc (.cells #[.int .i64 1, .int .i64 0, .slice none 0 0, .int .i64 0, .slice none 0 0, .slice A 3 c, .slice Q 0 qc] 99)) from below_al below_rf)
    generalize w.alloc (.cells #[.int .i64 1, .int .i64 0, .slice none 0 0, .int .i64 0, .slice none 0 0, .slice A 3 c, .slice Q 0 qc] 99) = w1 at *
    clear HP
    have c0 := HX.out.cell 0 (v := .int .i64 1) rfl
    have c1 := HX.out.cell 1 (v := .int .i64 0) rfl
    have c2 := HX.out.cell 2 (v := .slice none 0 0) rfl
    have c3 := HX.out.cell 3 (v := .int .i64 0) rfl
    go_wp2_with fail
    clear c0 c1 c2 c3
    refine (header_Format12 1 (by decide) _).mono ?_
    rintro e w2 ⟨⟨v, rfl, ho2⟩, B⟩
    obtain ⟨A', c', rfl⟩ := ho2.slice
    rw [show [(1 : Int)].length = 1 from rfl] at ho2
    rw [show [(1 : Int)].length = 1 from rfl]
    have HX2 := Lib.hid (HX.out.below B (Nat.le_refl _)); have HB12 := Lib.hid B; have HO2 := Lib.hid ho2; clear B ho2
    have c0 := HX2.out.cell 0 (v := .int .i64 1) rfl
    have c1 := HX2.out.cell 1 (v := .int .i64 0) rfl
    have c2 := HX2.out.cell 2 (v := .slice none 0 0) rfl
    have c3 := HX2.out.cell 3 (v := .int .i64 0) rfl
    go_wp2_with fail
    clear c0 c1 c2 c3
    refine (codec_counts12 1 (by decide) _).mono ?_
    rintro e w3 ⟨rfl, B⟩
    have HX3 := Lib.hid (HX2.out.below B (Nat.le_refl _)); have HB13 := Lib.hid (HB12.out.trans (B.mono HB12.out.size)); have HO3 := Lib.hid (HO2.out.below B (Nat.le_refl _)); clear B HX2 HB12 HO2
    rw [show (1 : Int) + 2 = 3 from rfl]
    have hcp := HP1.out.cap; have hmx := HP1.out.max
    unfold maxLen at hmx
    have c0 := HX3.out.cell 0 (v := .int .i64 1) rfl
    have c1 := HX3.out.cell 1 (v := .int .i64 0) rfl
    have c2 := HX3.out.cell 2 (v := .slice none 0 0) rfl
    have c3 := HX3.out.cell 3 (v := .int .i64 0) rfl
    have c4 := HX3.out.cell 4 (v := .slice none 0 0) rfl
    have c5 := HX3.out.cell 5 (v := .slice A 3 c) rfl
    have c6 := HX3.out.cell 6 (v := .slice Q 0 qc) rfl
    go_wp2_with fail
    refine wp_loop_rounds 1 ?_
    rw [rounds_succ]
    have d4 := (HX3.out.alloc (.cells #[.slice A' 1 c'] 142)).cell 4 (v := .slice none 0 0) rfl
    go_wp2_with fail
    clear d4
    have HW4 := Lib.hid (show Wr (w3.alloc (.cells #[.slice A' 1 c'] 142)) w1.heap.size w3.heap.size [1] from ⟨HB13.out.size, .slice A' 1 c', Bx.new _ _ _, HO3.out.alloc _⟩)
    have HB14 := Lib.hid (HB13.out.alloc HB13.out.size (.cells #[.slice A' 1 c'] 142))
    have HX4 := Lib.hid (HX3.out.alloc (.cells #[.slice A' 1 c'] 142))
    have HNE := Lib.hid (show some w.heap.size ≠ some w3.heap.size from by have := HX3.out.lt; simp; omega)
    generalize hz : w3.heap.size = bw at *
    have HZ := Lib.hid hz; clear hz
    generalize w3.alloc (.cells #[.slice A' 1 c'] 142) = w4 at *
    clear HX3 HB13 HO3 c0 c1 c2 c3 c4 c5 c6
    refine wp_loop_rounds 1 ?_
    rw [rounds_succ]
    have c5 := HX4.out.cell 5 (v := .slice A 3 c) rfl
    go_wp2_with fail
    clear c5
    refine (each_pts w1 w1.heap.size bw A 3 c f g (by decide) [1] (by decide) _ HB14.out.size (Nat.le_refl _) HP1.out HB14.out HW4.out).mono ?_
    rintro e w5 ⟨rfl, h5, g5⟩
    have HW5 := Lib.hid h5; have HX5 := Lib.hid (g5.keep _ _ _ (by decide) HNE.out HX4.out); have HB15 := Lib.hid (HB14.out.trans g5.below); clear h5 g5 HW4 HX4 HB14
    have c6 := HX5.out.cell 6 (v := .slice Q 0 qc) rfl
    go_wp2_with fail
    refine (each_qus0 Q qc _ _).mono ?_
    rintro e w6 ⟨rfl, rfl⟩
    obtain ⟨-, v5, hbw, hov⟩ := HW5.out
    have cw := hbw.cell 0 (v := v5) rfl
    clear hbw hov
    go_wp2_with fail
    go_ret2
    exact ⟨⟨_, rfl⟩, HB1.out.trans (HB15.out.mono HB1.out.size)⟩
  · have HP := Lib.hid (show Pts w A 4 c f g from hp); clear hp
    rw [show ((2 : Int) + 2).toNat = 4 from rfl]
    go_enter Tryz.func85, Tryz.ntmps85
    go_wp2_with fail
    have HX := Lib.hid (Bx.new w #[.int .i64 2, .int .i64 0, .slice none 0 0, .int .i64 0, .slice none 0 0, .slice A 4 c, .slice Q 0 qc] 99)
    have HP1 := Lib.hid (HP.out.alloc (.cells #[.int .i64 2, .int .i64 0, .slice none 0 0, .int .i64 0, .slice none 0 0, .slice A 4 c, .slice Q 0 qc] 99))
    have HB1 := Lib.hid (show Below w.heap.size w (w.alloc (.cells #[.int .i64 2, .int .i64 0, .slice none 0 0, .int .i64 0, .slice none 0 0, .slice A 4 c, .slice Q 0 qc] 99)) from below_al below_rf)
    generalize w.alloc (.cells #[.int .i64 2, .int .i64 0, .slice none 0 0, .int .i64 0, .slice none 0 0, .slice A 4 c, .slice Q 0 qc] 99) = w1 at *
    clear HP
    have c0 := HX.out.cell 0 (v := .int .i64 2) rfl
    have c1 := HX.out.cell 1 (v := .int .i64 0) rfl
    have c2 := HX.out.cell 2 (v := .slice none 0 0) rfl
    have c3 := HX.out.cell 3 (v := .int .i64 0) rfl
    go_wp2_with fail
    clear c0 c1 c2 c3
    refine (header_Format12 2 (by decide) _).mono ?_
    rintro e w2 ⟨⟨v, rfl, ho2⟩, B⟩
    obtain ⟨A', c', rfl⟩ := ho2.slice
    rw [show [(2 : Int)].length = 1 from rfl] at ho2
    rw [show [(2 : Int)].length = 1 from rfl]
    have HX2 := Lib.hid (HX.out.below B (Nat.le_refl _)); have HB12 := Lib.hid B; have HO2 := Lib.hid ho2; clear B ho2
    have c0 := HX2.out.cell 0 (v := .int .i64 2) rfl
    have c1 := HX2.out.cell 1 (v := .int .i64 0) rfl
    have c2 := HX2.out.cell 2 (v := .slice none 0 0) rfl
    have c3 := HX2.out.cell 3 (v := .int .i64 0) rfl
    go_wp2_with fail
    clear c0 c1 c2 c3
    refine (codec_counts12 2 (by decide) _).mono ?_
    rintro e w3 ⟨rfl, B⟩
    have HX3 := Lib.hid (HX2.out.below B (Nat.le_refl _)); have HB13 := Lib.hid (HB12.out.trans (B.mono HB12.out.size)); have HO3 := Lib.hid (HO2.out.below B (Nat.le_refl _)); clear B HX2 HB12 HO2
    rw [show (2 : Int) + 2 = 4 from rfl]
    have hcp := HP1.out.cap; have hmx := HP1.out.max
    unfold maxLen at hmx
    have c0 := HX3.out.cell 0 (v := .int .i64 2) rfl
    have c1 := HX3.out.cell 1 (v := .int .i64 0) rfl
    have c2 := HX3.out.cell 2 (v := .slice none 0 0) rfl
    have c3 := HX3.out.cell 3 (v := .int .i64 0) rfl
    have c4 := HX3.out.cell 4 (v := .slice none 0 0) rfl
    have c5 := HX3.out.cell 5 (v := .slice A 4 c) rfl
    have c6 := HX3.out.cell 6 (v := .slice Q 0 qc) rfl
    go_wp2_with fail
    refine wp_loop_rounds 1 ?_
    rw [rounds_succ]
    have d4 := (HX3.out.alloc (.cells #[.slice A' 1 c'] 142)).cell 4 (v := .slice none 0 0) rfl
    go_wp2_with fail
    clear d4
    have HW4 := Lib.hid (show Wr (w3.alloc (.cells #[.slice A' 1 c'] 142)) w1.heap.size w3.heap.size [2] from ⟨HB13.out.size, .slice A' 1 c', Bx.new _ _ _, HO3.out.alloc _⟩)
    have HB14 := Lib.hid (HB13.out.alloc HB13.out.size (.cells #[.slice A' 1 c'] 142))
    have HX4 := Lib.hid (HX3.out.alloc (.cells #[.slice A' 1 c'] 142))
    have HNE := Lib.hid (show some w.heap.size ≠ some w3.heap.size from by have := HX3.out.lt; simp; omega)
    generalize hz : w3.heap.size = bw at *
    have HZ := Lib.hid hz; clear hz
    generalize w3.alloc (.cells #[.slice A' 1 c'] 142) = w4 at *
    clear HX3 HB13 HO3 c0 c1 c2 c3 c4 c5 c6
    refine wp_loop_rounds 1 ?_
    rw [rounds_succ]
    have c5 := HX4.out.cell 5 (v := .slice A 4 c) rfl
    go_wp2_with fail
    clear c5
    refine (each_pts w1 w1.heap.size bw A 4 c f g (by decide) [2] (by decide) _ HB14.out.size (Nat.le_refl _) HP1.out HB14.out HW4.out).mono ?_
    rintro e w5 ⟨rfl, h5, g5⟩
    have HW5 := Lib.hid h5; have HX5 := Lib.hid (g5.keep _ _ _ (by decide) HNE.out HX4.out); have HB15 := Lib.hid (HB14.out.trans g5.below); clear h5 g5 HW4 HX4 HB14
    have c6 := HX5.out.cell 6 (v := .slice Q 0 qc) rfl
    go_wp2_with fail
    refine (each_qus0 Q qc _ _).mono ?_
    rintro e w6 ⟨rfl, rfl⟩
    obtain ⟨-, v5, hbw, hov⟩ := HW5.out
    have cw := hbw.cell 0 (v := v5) rfl
    clear hbw hov
    go_wp2_with fail
    go_ret2
    exact ⟨⟨_, rfl⟩, HB1.out.trans (HB15.out.mono HB1.out.size)⟩
end Go.Proofs.YtjdiilkljgljkaaGreatDoor
namespace Go.Proofs.YtjdiilkljgljkaaGreatDoor
set_option linter.unusedVariables false
set_option linter.unusedSimpArgs false
open Go.RowKit Wd

theorem push_set {α : Type _} (a : Array α) (x y : α) : (a.push x).setIfInBounds a.size y = a.push y := by
  apply Array.ext
  · simp
  · intro i h1 h2
    simp only [Array.size_push] at h2
    rw [Array.getElem_setIfInBounds (by simpa using h2)]
    by_cases h : a.size = i
    · subst h; simp
    · rw [if_neg h, Array.getElem_push_lt (by omega), Array.getElem_push_lt (by omega)]
theorem isKey64 (k : Int) : MapKept.IsKey (.int .i64) (.int .i64 k) := by simp [MapKept.IsKey]
theorem run_insert_new {P : Program} {t kt et : TypeId} (ht : P.underlying t = some (.map kt et)) (hk : P.underlying kt = some (.int .i64)) (w : World) (es : Array MapEntry) (clock : Nat) (k : Int) (v : Value)
    (hf : Instr.findNow (.int .i64) (.int .i64 k) es.toList 0 = some none) :
    (Instr.mapUpdate t (.map (some w.heap.size)) (.int .i64 k) v).run P (w.alloc (.map es clock)) = .ok () (w.alloc (.map (es.push { key := .int .i64 k, val := v, born := clock }) (clock + 1))) := by
  have hb : (w.alloc (.map es clock)).heap[w.heap.size]? = some (.map es clock) := heap_alloc_new w _
  simp [Instr.mapUpdate, run_underlying ht, MapKept.run_getObj_map hb, MapKept.run_checkKey hk (isKey64 k) false 9999, MapKept.run_findKey hk hf, MapKept.run_setObj_map _ hb, Result.andThen]
  unfold World.alloc
  simp [push_set]
theorem run_lookup_at {P : Program} {t kt et : TypeId} (ht : P.underlying t = some (.map kt et)) (hk : P.underlying kt = some (.int .i64)) (w : World) (m : Nat) (es : Array MapEntry) (clock : Nat) (k : Int) (v : Value) (i : Nat)
    (hb : w.heap[m]? = some (.map es clock)) (hf : Instr.findNow (.int .i64) (.int .i64 k) es.toList 0 = some (some (i, v))) :
    (Instr.lookup t (.map (some m)) (.int .i64 k) true).run P w = .ok (.tuple #[v, .bool true]) w := by
  simp [Instr.lookup, run_underlying ht, MapKept.run_getObj_map hb, MapKept.run_checkKey hk (isKey64 k) _ 9999, MapKept.run_findKey hk hf, Result.andThen]
/-- the entries of the table of operations -/
def opE : Array MapEntry := #[⟨.int .i64 1, .agg #[.func (.func 142) #[] #[]], 0⟩, ⟨.int .i64 2, .agg #[.func (.func 143) #[] #[]], 1⟩, ⟨.int .i64 3, .agg #[.func (.func 145) #[] #[]], 2⟩, ⟨.int .i64 4, .agg #[.func (.func 147) #[] #[]], 3⟩]
def OpsM (w : World) (m : Nat) : Prop := w.heap[m]? = some (.map opE 4)
theorem Stay.ops (m : Nat) : Stay (fun w => OpsM w m) :=
  ⟨fun w w' b h => (b.block m (Array.getElem?_eq_some_iff.1 h).1).trans h, fun w B cs ty _ _ hb k v h => by
    refine (heap_setCell_other w ⟨B, k, none⟩ m v (fun e => ?_)).trans h
    obtain rfl : m = B := e
    have := (show w.heap[m]? = _ from hb).symm.trans h
    simp at this⟩
set_option maxHeartbeats 4000000 in
set_option maxRecDepth 100000 in
theorem engine_operations (w : World) :
    Calls Tryz.prog 122 #[] w fun e w' => e = .returned (.map (some w.heap.size)) ∧ OpsM w' w.heap.size ∧ Below w.heap.size w w' := by
  have hmm := @run_makeMap Tryz.prog
  have h1 := run_insert_new (P := Tryz.prog) Tryz.underlying182 Tryz.underlying3 w #[] 0 1 (.agg #[.func (.func 142) #[] #[]]) rfl
  have h2 := run_insert_new (P := Tryz.prog) Tryz.underlying182 Tryz.underlying3 w #[⟨.int .i64 1, .agg #[.func (.func 142) #[] #[]], 0⟩] 1 2 (.agg #[.func (.func 143) #[] #[]]) rfl
  have h3 := run_insert_new (P := Tryz.prog) Tryz.underlying182 Tryz.underlying3 w #[⟨.int .i64 1, .agg #[.func (.func 142) #[] #[]], 0⟩, ⟨.int .i64 2, .agg #[.func (.func 143) #[] #[]], 1⟩] 2 3 (.agg #[.func (.func 145) #[] #[]]) rfl
  have h4 := run_insert_new (P := Tryz.prog) Tryz.underlying182 Tryz.underlying3 w #[⟨.int .i64 1, .agg #[.func (.func 142) #[] #[]], 0⟩, ⟨.int .i64 2, .agg #[.func (.func 143) #[] #[]], 1⟩, ⟨.int .i64 3, .agg #[.func (.func 145) #[] #[]], 2⟩] 3 4 (.agg #[.func (.func 147) #[] #[]]) rfl
  simp only [List.push_toArray, List.nil_append, List.cons_append] at h1 h2 h3 h4
  go_enter Tryz.func122, Tryz.ntmps122
  go_wp2_with fail
  go_ret
  exact ⟨rfl, heap_alloc_new _ _, below_al below_rf⟩
end Go.Proofs.YtjdiilkljgljkaaGreatDoor
namespace Go.Proofs.YtjdiilkljgljkaaGreatDoor
set_option linter.unusedVariables false
set_option linter.unusedSimpArgs false
set_option maxRecDepth 20000
open Go.RowKit Wd

theorem info_u64 : (Tryz.prog.info? 61).map (fun i => (i.zero, i.size, i.bytes)) = some (some (.int .u64 0), 1, 8) := by kernel_rfl

/-- slices.Clone of a slice that is not nil: a row of the call's own -/
theorem clone_some (b off n c : Nat) (f : Nat → Int) (w : World) (h : Sl w .u64 (some ⟨b, off, none⟩) n c f) (h0 : 0 < n) (hn : n ≤ 65536) :
    Calls Tryz.prog 102 #[.slice (some ⟨b, off, none⟩) n c] w fun e w' => ∃ g cap, e = .returned (.slice (some ⟨g, 0, none⟩) n cap) ∧ w'.ownsRow w.heap.size 61 1 (.slice (some ⟨g, 0, none⟩) n cap) n (row .u64 f n) ∧ Below w.heap.size w w' := by
  obtain ⟨i0, hi0, hz0, hz1, hz2⟩ := info_parts info_u64
  have hq : ∀ (w : World) (a : Option Addr) (n c n' c' : Nat), (binOp .eql 93 (.slice a n c) (.slice none n' c')).run Tryz.prog w = .ok (.bool a.isNone) w := fun w a n c n' c' => Lib.run_eql_slice_nil w _ _ a n c n' c' Tryz.underlying93
  obtain ⟨b', off', e, hlt, hc⟩ := h.at_ h0
  simp only [Option.some.injEq, Addr.mk.injEq, and_true] at e
  obtain ⟨rfl, rfl⟩ := e
  have hcells := Sl.cells (w := w) (c := c) hc
  have hcells' : ∀ j u, (row .u64 f n)[j]? = some u → (w.alloc (.cells #[] 61)).cell? ((⟨b, off, none⟩ : Addr).add j) = some u := by
    intro j u hu
    rw [World.cell?_alloc_lt _ _ _ (by unfold Addr.add; split <;> exact hlt)]
    exact hcells j u hu
  have HC := Lib.hid hcells'; clear hcells hcells' hc
  go_enter Tryz.func102, Tryz.ntmps102
  go_wp2_with (at_builtin; refine wpList_append_own _ rfl _ _ 93 rfl w.heap.size 61 i0 (.int .u64 0) 1 8 Tryz.underlying93 hi0 hz0 hz1 hz2 rfl (by decide) _ 0 [] rfl ?c0 ⟨b, off, none⟩ n c (row .u64 f n) rfl (by rw [row_length]; omega) HC.out (row_one _ _ _) (by unfold maxLen; omega) (by omega) (by simp) ?_)
  case c0 => exact World.ownsRow_lit w #[] 0 (Nat.le_refl _) (Nat.zero_le _) rfl
  intro v' w1 hown hgrow _
  have hB : Below w.heap.size w w1 := ((Below.refl w.heap.size w).alloc (Nat.le_refl _) _).grown hgrow (by simp) (by intro k hk; simp [Value.ownBlock, Act.eval] at hk; omega)
  go_wp2
  go_ret
  have hown' : w1.ownsRow w.heap.size 61 1 v' n (row .u64 f n) := by simpa using hown
  obtain ⟨g, cap, hv, -, -⟩ := hown'.form h0
  subst hv
  exact ⟨g, cap, rfl, hown', hB⟩

/-- the length of a slice value -/
def lenOf : Value → Nat | .slice _ n _ => n | _ => 0
theorem World.ownsRow_le {w : World} {base base' size n : Nat} {e : TypeId} {v : Value} {xs : List Value} (h : w.ownsRow base e size v n xs) (hb : base' ≤ base) : w.ownsRow base' e size v n xs := by
  obtain ⟨h1, h2⟩ := h
  refine ⟨h1, ?_⟩
  rcases h2 with h2 | ⟨g, cap, cur, hv, hg, r⟩
  · exact Or.inl h2
  · exact Or.inr ⟨g, cap, cur, hv, Nat.le_trans hb hg, r⟩

/-- what limb.Extend does where its argument is an integer: loop and cut -/
theorem limb_Extend (A : Option Addr) (n c : Nat) (x : Int) (mi : Int) (m : Nat) (hmi : mi = m) (w : World) (h : Sl w .u64 A n c (lmb x)) (hx : Fit n x) (hn : isN n = true) (hm : isN m = true) :
    Calls Tryz.prog 74 #[.slice A n c, .int .i64 mi] w fun e w' => ∃ A' c', e = .returned (.slice A' m c') ∧ Sl w' .u64 A' m c' (lmb x) ∧ Below w.heap.size w w' := by
  subst hmi
  obtain ⟨i0, hi0, hz0, hz1, hz2⟩ := info_parts info_u64
  have hn' := isN_true hn
  have hm' := isN_true hm
  obtain ⟨b, off, rfl, hlt, hc⟩ := h.at_ (by omega)
  have hfill : msk (decide (9223372036854775808 ≤ lmb x (n - 1))) = msk (decide (x < 0)) := by
    obtain ⟨k, rfl⟩ : ∃ k, n = k + 1 := ⟨n - 1, by omega⟩
    rw [Nat.add_sub_cancel, decide_eq_decide.2 (top_neg hx)]
  have hmax := h.max
  have hcap := h.cap
  have HN := Lib.hid hn; have HM := Lib.hid hm; have HC := Lib.hid hc; have HF := Lib.hid hfill; have HX := Lib.hid hx
  clear hn hm hc hfill hx
  go_enter Tryz.func74, Tryz.ntmps74
  go_wp2_with fail
  refine (limb_is1 _ (some ⟨b, off, none⟩) n c (by omega) _ (by simp [go_sem])).mono ?_
  rintro e w1 ⟨rfl, rfl⟩
  rw [HN.out]
  go_wp2_with fail
  refine (clone_some b off n c (lmb x) _ (h.alloc _) (by omega) (by omega)).mono ?_
  rintro e w1 ⟨g, cap, rfl, hown, hb1⟩
  have hb2 : Below w.heap.size w w1 := ((Below.refl w.heap.size w).alloc (Nat.le_refl _) _).trans (hb1.mono (by simp))
  have hc1 : w1.cell? ⟨b, off + (n - 1), none⟩ = some (.int .u64 (lmb x (n - 1))) := (hb2.cell (p := ⟨b, off + (n - 1), none⟩) hlt).trans (HC.out (n - 1) (by omega))
  go_wp2_with fail
  refine (word_Fill _ (isW_lmb x (n - 1)) _).mono ?_
  rintro e w2 ⟨rfl, rfl⟩
  rw [HF.out]
  clear hc1
  have hown' : w1.ownsRow w.heap.size 61 1 (.slice (some ⟨g, 0, none⟩) n cap) n (row .u64 (lmb x) n) := World.ownsRow_le hown (by simp)
  have HO := Lib.hid hown'; clear hown hown'
  have HB := Lib.hid hb2; clear hb2 hb1
  go_wp2_with fail
  go_loopw [5] (fun v wr => ∃ k g cap : Nat, v = .slice (some ⟨g, 0, none⟩) k cap ∧ n ≤ k ∧ k ≤ n + m ∧ (n < k → k ≤ m) ∧ wr.ownsRow w.heap.size 61 1 (.slice (some ⟨g, 0, none⟩) k cap) k (row .u64 (lmb x) k) ∧ Below w.heap.size w wr)
    (fun v _ => m - lenOf v)
  case atStart => exact ⟨n, g, cap, rfl, Nat.le_refl _, by omega, by omega, HO.out, HB.out⟩
  case round =>
    clear HO HB
    obtain ⟨k, g, cap, rfl, hk1, hk2, hk3, hown, hb⟩ := hrel
    by_cases hlt' : k < m
    · go_wp2_with (at_builtin; refine wpList_append_own _ rfl _ _ 93 rfl w.heap.size 61 i0 (.int .u64 0) 1 8 Tryz.underlying93 hi0 hz0 hz1 hz2 rfl (by decide) _ _ _ rfl (hown.alloc _) ⟨wr.heap.size, 0, none⟩ 1 1 [.int .u64 (msk (decide (x < 0)))] rfl rfl ?c1 ?c2 ?c3 ?c4 ?c5 ?_)
      case c1 => exact cells_one_new _ _ _
      case c2 => exact one_oneCell _ _
      case c3 => unfold maxLen; omega
      case c4 => omega
      case c5 => have := hb.size; simp; omega
      intro v' w2 hown2 hgrow _
      have hb3 : Below w.heap.size w w2 := (hb.alloc hb.size _).grown hgrow (by have := hb.size; simp; omega) (own_block_le hown)
      have hown3 := own_push hown2 (lmb_fill HX.out hk1).symm
      obtain ⟨g2, cap2, hv2, -, -⟩ := hown3.form (by omega)
      subst hv2
      have H3 := Lib.hid hown3; have B3 := Lib.hid hb3
      clear hown2 hgrow hown hb hb3 hown3
      go_wp2
      go_roundw
      case rel => exact ⟨k + 1, g2, cap2, rfl, by omega, by omega, by omega, H3.out, B3.out⟩
      case measure => simp [lenOf]; omega
    · have hsl := Sl.of_own hown
      obtain ⟨A', c', hv, hsl⟩ := hsl
      injection hv with e1 e2 e3
      subst e1 e3
      have hcc := hsl.cap
      have hcm := hsl.max
      have HS := Lib.hid hsl; have HB3 := Lib.hid hb
      clear hsl hown hb
      unfold maxLen at hcm
      go_wp2
      go_ret
      exact ⟨some ⟨g, 0, none⟩, m, rfl, HS.out.take (by omega), HB3.out⟩

/-- limb.Extend where its argument is no integer, or the number of limbs is none: nothing -/
theorem limb_Extend_no (A : Option Addr) (n c : Nat) (mi : Int) (f : Nat → Int) (w : World) (h : Sl w .u64 A n c f) (hno : isN n = false ∨ mi < 1 ∨ 8 < mi) (hm : IsI mi) :
    Calls Tryz.prog 74 #[.slice A n c, .int .i64 mi] w fun e w' => e = .returned (.slice none 0 0) ∧ Below w.heap.size w w' := by
  have hmax := h.max
  have hcap := h.cap
  clear hm
  have hb : Below w.heap.size w (w.alloc (.cells #[.slice A n c] 93)) := (Below.refl w.heap.size w).alloc (Nat.le_refl _) _
  have HB := Lib.hid hb; clear hb
  cases hn : isN n
  · have HN := Lib.hid hn; clear hn hno
    go_enter Tryz.func74, Tryz.ntmps74
    go_wp2_with fail
    refine (limb_is1 _ A n c (by omega) _ (by simp [go_sem])).mono ?_
    rintro e w1 ⟨rfl, rfl⟩
    rw [HN.out]
    go_wp2_with fail
    go_ret
    exact ⟨rfl, HB.out⟩
  · have h1 : mi < 1 ∨ 8 < mi := by rcases hno with h | h; (rw [hn] at h; cases h); exact h
    have HN := Lib.hid hn; clear hn hno
    rcases h1 with h1 | h1
    · go_enter Tryz.func74, Tryz.ntmps74
      go_wp2_with fail
      refine (limb_is1 _ A n c (by omega) _ (by simp [go_sem])).mono ?_
      rintro e w1 ⟨rfl, rfl⟩
      rw [HN.out]
      go_wp2_with fail
      go_ret
      exact ⟨rfl, HB.out⟩
    · have h2 : ¬ mi < 1 := by omega
      go_enter Tryz.func74, Tryz.ntmps74
      go_wp2_with fail
      refine (limb_is1 _ A n c (by omega) _ (by simp [go_sem])).mono ?_
      rintro e w1 ⟨rfl, rfl⟩
      rw [HN.out]
      go_wp2_with fail
      go_ret
      exact ⟨rfl, HB.out⟩

theorem sl_word (w : World) (x : Int) (t : TypeId) : Sl (w.alloc (.cells #[.int .u64 (IntKind.u64.wrap x)] t)) .u64 (some ⟨w.heap.size, 0, none⟩) 1 1 (lmb x) :=
  ⟨Nat.le_refl _, by decide, fun _ => ⟨w.heap.size, 0, rfl, by simp, fun i hi => by
    obtain rfl : i = 0 := by omega
    have e : lmb x 0 = IntKind.u64.wrap x := by unfold lmb; rw [qt_zero, IntKind.wrap_u64]
    rw [e]; simp [go_sem]⟩⟩

theorem limb_From (x : Int) (mi : Int) (m : Nat) (hmi : mi = m) (hx : IsI x) (hm : isN m = true) (w : World) :
    Calls Tryz.prog 130 #[.int .i64 x, .int .i64 mi] w fun e w' => ∃ A' c', e = .returned (.slice A' m c') ∧ Sl w' .u64 A' m c' (lmb x) ∧ Below w.heap.size w w' := by
  subst hmi
  have HX := Lib.hid (fit_I hx (Nat.le_refl 1)); clear hx
  have HM := Lib.hid hm; clear hm
  go_enter Tryz.func130, Tryz.ntmps130
  go_wp2_with fail
  refine (limb_Extend _ 1 1 x _ m rfl _ (sl_word w x _) HX.out rfl HM.out).mono ?_
  rintro e w1 ⟨A', c', rfl, hs, hb⟩
  go_wp2_with fail
  go_ret
  exact ⟨A', c', rfl, hs, ((Below.refl w.heap.size w).alloc (Nat.le_refl _) _).trans (hb.mono (by simp))⟩
theorem limb_From_no (x : Int) (mi : Int) (hx : IsI x) (hm : mi < 1 ∨ 8 < mi) (hi : IsI mi) (w : World) :
    Calls Tryz.prog 130 #[.int .i64 x, .int .i64 mi] w fun e w' => e = .returned (.slice none 0 0) ∧ Below w.heap.size w w' := by
  have HM := Lib.hid hm; clear hm
  go_enter Tryz.func130, Tryz.ntmps130
  go_wp2_with fail
  refine (limb_Extend_no _ 1 1 _ (lmb x) _ (sl_word w x _) (Or.inr HM.out) hi).mono ?_
  rintro e w1 ⟨rfl, hb⟩
  go_wp2_with fail
  go_ret
  exact ⟨rfl, ((Below.refl w.heap.size w).alloc (Nat.le_refl _) _).trans (hb.mono (by simp))⟩
end Go.Proofs.YtjdiilkljgljkaaGreatDoor
namespace Go.Proofs.YtjdiilkljgljkaaGreatDoor
set_option linter.unusedVariables false
set_option linter.unusedSimpArgs false
open Go.RowKit Wd

theorem word_Add_step (x y : Int) (i : Nat) (w : World) : Calls Tryz.prog 174 #[.int .u64 (lmb x i), .int .u64 (lmb y i), .int .u64 (car x y i)] w fun e w' => e = .returned (.tuple #[.int .u64 (lmb (x + y) i), .int .u64 (car x y (i + 1))]) ∧ w' = w := by
  have h := word_Add _ _ _ (isW_lmb x i) (isW_lmb y i) (isW_car x y i) w
  rw [(add_step x y i).1, (add_step x y i).2] at h
  exact calls_flip h
theorem word_Sub_step (x y : Int) (i : Nat) (w : World) : Calls Tryz.prog 128 #[.int .u64 (lmb x i), .int .u64 (lmb y i), .int .u64 (brw x y i)] w fun e w' => e = .returned (.tuple #[.int .u64 (lmb (x - y) i), .int .u64 (brw x y (i + 1))]) ∧ w' = w := by
  have h := word_Sub _ _ _ (isW_lmb x i) (isW_lmb y i) (isW_brw x y i) w
  rw [(sub_step x y i).1, (sub_step x y i).2] at h
  exact calls_flip h

set_option maxHeartbeats 400000 in
theorem apply_Add (A A' : Option Addr) (n c c' : Nat) (x y : Int) (w : World) (ha : Sl w .u64 A n c (lmb x)) (hb : Sl w .u64 A' n c' (lmb y)) (hn : isN n = true) :
    Calls Tryz.prog 129 #[.agg #[.func (.func 174) #[] #[]], .slice A n c, .slice A' n c', .int .u64 0] w fun e w' => ∃ g, e = .returned (.slice (some ⟨g, 0, none⟩) n n) ∧
      w'.ownsRow w.heap.size 61 1 (.slice (some ⟨g, 0, none⟩) n n) n (row .u64 (lmb (x + y)) n) ∧ Below w.heap.size w w' := by
  obtain ⟨i0, hi0, hz0, hz1, hz2⟩ := info_parts info_u64
  have hn' := isN_true hn
  obtain ⟨b, off, rfl, hlt, hca⟩ := ha.at_ (by omega)
  obtain ⟨b', off', rfl, hlt', hcb⟩ := hb.at_ (by omega)
  have hmax := ha.max; have hmax' := hb.max; have hcap := ha.cap; have hcap' := hb.cap
  have HN := Lib.hid hn; have HA := Lib.hid hca; have HB := Lib.hid hcb
  clear hn hca hcb ha hb
  go_enter Tryz.func129, Tryz.ntmps129
  go_wp2_with fail
  refine (limb_is2 _ (some ⟨b, off, none⟩) (some ⟨b', off', none⟩) n c n c' (by omega) (by omega) _ (by simp [go_sem]) (by simp [go_sem])).mono ?_
  rintro e w1 ⟨rfl, rfl⟩
  rw [HN.out]
  go_wp2_with (at_make; refine wpList_make_full _ rfl _ _ 93 rfl (w.heap.size + 1) 61 i0 (.int .u64 0) 1 Tryz.underlying93 hi0 hz0 hz1 .i64 .i64 (n : Int) (n : Int) n rfl rfl rfl rfl (by rw [hz2]; omega) (by unfold maxLen; omega) (by simp) ?_)
  intro w2 hown hgrow
  have hb2 : Below w.heap.size w w2 := (((Below.refl w.heap.size w).alloc (Nat.le_refl _) _).alloc (by simp) _).grown hgrow (by simp; omega) (by intro k hk; cases hk)
  have hbox : w2.cell? ⟨w.heap.size, 0, none⟩ = some (.func (.func 174) #[] #[]) := by
    rw [World.cell?_of_block (hgrow.block w.heap.size (by simp; omega) (by intro h; cases h))]; simp [go_sem]
  rw [toList_madeCells_one, row_zero .u64 (lmb (x + y)) n] at hown
  have HO := Lib.hid hown; have HX := Lib.hid hbox; have HB2 := Lib.hid hb2
  have hg1 : w.heap.size + 1 + 1 < w2.heap.size := (hown.lt _ rfl).2
  clear hown hbox hgrow hb2
  go_wp2_with fail
  go_loopw [3, 28] (fun cr i wr => ∃ k : Nat, k ≤ n ∧ i = .int .i64 k ∧ cr = .int .u64 (car x y k) ∧ wr.ownsRow (w.heap.size + 1) 61 1 (.slice (some ⟨w.heap.size + 1 + 1, 0, none⟩) n n) n (row .u64 (upd (lmb (x + y)) k) n) ∧ Below (w.heap.size + 1) w2 wr)
    (fun _ i _ => n - (intOf i).toNat)
  case atStart => exact ⟨0, Nat.zero_le _, rfl, by rw [car_zero], HO.out, Below.refl _ _⟩
  case round =>
    clear HO
    obtain ⟨k, hk, rfl, rfl, hown, hbr⟩ := hrel
    by_cases hlt2 : k < n
    · have c1 : wr.cell? ⟨w.heap.size, 0, none⟩ = some (.func (.func 174) #[] #[]) := (hbr.cell (p := ⟨w.heap.size, 0, none⟩) (by simp)).trans HX.out
      have c2 : wr.cell? ⟨b, off + k, none⟩ = some (.int .u64 (lmb x k)) := ((hbr.cell (p := ⟨b, off + k, none⟩) (by simp; omega)).trans (HB2.out.cell (p := ⟨b, off + k, none⟩) hlt)).trans (HA.out k hlt2)
      have c3 : wr.cell? ⟨b', off' + k, none⟩ = some (.int .u64 (lmb y k)) := ((hbr.cell (p := ⟨b', off' + k, none⟩) (by simp; omega)).trans (HB2.out.cell (p := ⟨b', off' + k, none⟩) hlt')).trans (HB.out k hlt2)
      have c4 : wr.cell? ⟨w.heap.size + 1 + 1, k, none⟩ = some (.int .u64 0) := by
        rw [World.ownsRow.cellAt hown k (by omega), row_get hlt2]; simp [upd]
      have c5 : wr.frozen? ⟨w.heap.size + 1 + 1, k, none⟩ = false := World.ownsRow.frozenAt hown k
      have HOW := Lib.hid hown; have HBR := Lib.hid hbr
      clear hown hbr HA HB HX HB2
      go_wp2_with fail
      go_region_held3 (fun w' => w'.cell? ⟨w.heap.size, 0, none⟩ = some (.func (.func 174) #[] #[]) ∧ w'.cell? ⟨b, off + k, none⟩ = some (.int .u64 (lmb x k)) ∧ w'.cell? ⟨b', off' + k, none⟩ = some (.int .u64 (lmb y k))) (first | exact ⟨c1, c2, c3⟩ | exact ⟨cell_far c1 (by simp; omega), cell_far c2 (by simp; omega), cell_far c3 (by simp; omega)⟩) (first | (go_at_call 174; refine (word_Add_step x y k _).mono ?_; rintro e w' ⟨rfl, rfl⟩))
      go_wp2_with fail
      go_roundw
      case rel => exact ⟨k + 1, by omega, by go_num, rfl, (own_store HOW.out rfl hlt2).drew, (HBR.out.setCell (p := ⟨w.heap.size + 1 + 1, k, none⟩) (by simp) _).drew⟩
      case measure => simp [intOf]; omega
    · go_wp2_with fail
      go_ret
      obtain rfl : k = n := by omega
      exact ⟨_, rfl, World.ownsRow_le (by rw [← row_upd_all]; exact hown) (by omega), HB2.out.trans (hbr.mono (by omega))⟩

set_option maxHeartbeats 400000 in
theorem apply_Sub (A A' : Option Addr) (n c c' : Nat) (x y : Int) (w : World) (ha : Sl w .u64 A n c (lmb x)) (hb : Sl w .u64 A' n c' (lmb y)) (hn : isN n = true) :
    Calls Tryz.prog 129 #[.agg #[.func (.func 128) #[] #[]], .slice A n c, .slice A' n c', .int .u64 0] w fun e w' => ∃ g, e = .returned (.slice (some ⟨g, 0, none⟩) n n) ∧
      w'.ownsRow w.heap.size 61 1 (.slice (some ⟨g, 0, none⟩) n n) n (row .u64 (lmb (x - y)) n) ∧ Below w.heap.size w w' := by
  obtain ⟨i0, hi0, hz0, hz1, hz2⟩ := info_parts info_u64
  have hn' := isN_true hn
  obtain ⟨b, off, rfl, hlt, hca⟩ := ha.at_ (by omega)
  obtain ⟨b', off', rfl, hlt', hcb⟩ := hb.at_ (by omega)
  have hmax := ha.max; have hmax' := hb.max; have hcap := ha.cap; have hcap' := hb.cap
  have HN := Lib.hid hn; have HA := Lib.hid hca; have HB := Lib.hid hcb
  clear hn hca hcb ha hb
  go_enter Tryz.func129, Tryz.ntmps129
  go_wp2_with fail
  refine (limb_is2 _ (some ⟨b, off, none⟩) (some ⟨b', off', none⟩) n c n c' (by omega) (by omega) _ (by simp [go_sem]) (by simp [go_sem])).mono ?_
  rintro e w1 ⟨rfl, rfl⟩
  rw [HN.out]
  go_wp2_with (at_make; refine wpList_make_full _ rfl _ _ 93 rfl (w.heap.size + 1) 61 i0 (.int .u64 0) 1 Tryz.underlying93 hi0 hz0 hz1 .i64 .i64 (n : Int) (n : Int) n rfl rfl rfl rfl (by rw [hz2]; omega) (by unfold maxLen; omega) (by simp) ?_)
  intro w2 hown hgrow
  have hb2 : Below w.heap.size w w2 := (((Below.refl w.heap.size w).alloc (Nat.le_refl _) _).alloc (by simp) _).grown hgrow (by simp; omega) (by intro k hk; cases hk)
  have hbox : w2.cell? ⟨w.heap.size, 0, none⟩ = some (.func (.func 128) #[] #[]) := by
    rw [World.cell?_of_block (hgrow.block w.heap.size (by simp; omega) (by intro h; cases h))]; simp [go_sem]
  rw [toList_madeCells_one, row_zero .u64 (lmb (x - y)) n] at hown
  have HO := Lib.hid hown; have HX := Lib.hid hbox; have HB2 := Lib.hid hb2
  have hg1 : w.heap.size + 1 + 1 < w2.heap.size := (hown.lt _ rfl).2
  clear hown hbox hgrow hb2
  go_wp2_with fail
  go_loopw [3, 28] (fun cr i wr => ∃ k : Nat, k ≤ n ∧ i = .int .i64 k ∧ cr = .int .u64 (brw x y k) ∧ wr.ownsRow (w.heap.size + 1) 61 1 (.slice (some ⟨w.heap.size + 1 + 1, 0, none⟩) n n) n (row .u64 (upd (lmb (x - y)) k) n) ∧ Below (w.heap.size + 1) w2 wr)
    (fun _ i _ => n - (intOf i).toNat)
  case atStart => exact ⟨0, Nat.zero_le _, rfl, by rw [brw_zero], HO.out, Below.refl _ _⟩
  case round =>
    clear HO
    obtain ⟨k, hk, rfl, rfl, hown, hbr⟩ := hrel
    by_cases hlt2 : k < n
    · have c1 : wr.cell? ⟨w.heap.size, 0, none⟩ = some (.func (.func 128) #[] #[]) := (hbr.cell (p := ⟨w.heap.size, 0, none⟩) (by simp)).trans HX.out
      have c2 : wr.cell? ⟨b, off + k, none⟩ = some (.int .u64 (lmb x k)) := ((hbr.cell (p := ⟨b, off + k, none⟩) (by simp; omega)).trans (HB2.out.cell (p := ⟨b, off + k, none⟩) hlt)).trans (HA.out k hlt2)
      have c3 : wr.cell? ⟨b', off' + k, none⟩ = some (.int .u64 (lmb y k)) := ((hbr.cell (p := ⟨b', off' + k, none⟩) (by simp; omega)).trans (HB2.out.cell (p := ⟨b', off' + k, none⟩) hlt')).trans (HB.out k hlt2)
      have c4 : wr.cell? ⟨w.heap.size + 1 + 1, k, none⟩ = some (.int .u64 0) := by
        rw [World.ownsRow.cellAt hown k (by omega), row_get hlt2]; simp [upd]
      have c5 : wr.frozen? ⟨w.heap.size + 1 + 1, k, none⟩ = false := World.ownsRow.frozenAt hown k
      have HOW := Lib.hid hown; have HBR := Lib.hid hbr
      clear hown hbr HA HB HX HB2
      go_wp2_with fail
      go_region_held3 (fun w' => w'.cell? ⟨w.heap.size, 0, none⟩ = some (.func (.func 128) #[] #[]) ∧ w'.cell? ⟨b, off + k, none⟩ = some (.int .u64 (lmb x k)) ∧ w'.cell? ⟨b', off' + k, none⟩ = some (.int .u64 (lmb y k))) (first | exact ⟨c1, c2, c3⟩ | exact ⟨cell_far c1 (by simp; omega), cell_far c2 (by simp; omega), cell_far c3 (by simp; omega)⟩) (first | (go_at_call 128; refine (word_Sub_step x y k _).mono ?_; rintro e w' ⟨rfl, rfl⟩))
      go_wp2_with fail
      go_roundw
      case rel => exact ⟨k + 1, by omega, by go_num, rfl, (own_store HOW.out rfl hlt2).drew, (HBR.out.setCell (p := ⟨w.heap.size + 1 + 1, k, none⟩) (by simp) _).drew⟩
      case measure => simp [intOf]; omega
    · go_wp2_with fail
      go_ret
      obtain rfl : k = n := by omega
      exact ⟨_, rfl, World.ownsRow_le (by rw [← row_upd_all]; exact hown) (by omega), HB2.out.trans (hbr.mono (by omega))⟩

theorem apply_Add_no (A A' : Option Addr) (n c m c' : Nat) (w : World) (f g : Nat → Int) (ha : Sl w .u64 A n c f) (hb : Sl w .u64 A' m c' g) (hn : (isN n && isN m) = false ∨ n ≠ m) :
    Calls Tryz.prog 129 #[.agg #[.func (.func 174) #[] #[]], .slice A n c, .slice A' m c', .int .u64 0] w fun e w' => e = .returned (.slice none 0 0) ∧ Below w.heap.size w w' := by
  have hmax := ha.max; have hmax' := hb.max; have hcap := ha.cap; have hcap' := hb.cap
  have hbw := ((Below.refl w.heap.size w).alloc (Nat.le_refl _) (.cells #[.func (.func 174) #[] #[]] 190)).alloc (by simp) (.cells #[.slice A n c, .slice A' m c'] 93)
  have HB := Lib.hid hbw; clear hbw ha hb
  cases hi : (isN n && isN m)
  · have HI := Lib.hid hi; clear hi hn
    go_enter Tryz.func129, Tryz.ntmps129
    go_wp2_with fail
    refine (limb_is2 _ A A' n c m c' (by omega) (by omega) _ (by simp [go_sem]) (by simp [go_sem])).mono ?_
    rintro e w1 ⟨rfl, rfl⟩
    rw [HI.out]
    go_wp2_with fail
    go_ret
    exact ⟨rfl, HB.out⟩
  · have hne : ((n : Int) != (m : Int)) = true := by
      have : n ≠ m := by rcases hn with h | h; (rw [hi] at h; cases h); exact h
      simp; omega
    have HI := Lib.hid hi; clear hi hn
    go_enter Tryz.func129, Tryz.ntmps129
    go_wp2_with fail
    refine (limb_is2 _ A A' n c m c' (by omega) (by omega) _ (by simp [go_sem]) (by simp [go_sem])).mono ?_
    rintro e w1 ⟨rfl, rfl⟩
    rw [HI.out]
    go_wp2_with fail
    go_ret
    exact ⟨rfl, HB.out⟩

theorem limb_Add (A A' : Option Addr) (n c c' : Nat) (x y : Int) (w : World) (ha : Sl w .u64 A n c (lmb x)) (hb : Sl w .u64 A' n c' (lmb y)) (hn : isN n = true) :
    Calls Tryz.prog 170 #[.slice A n c, .slice A' n c'] w fun e w' => ∃ A2 c2, e = .returned (.slice A2 n c2) ∧ Sl w' .u64 A2 n c2 (lmb (x + y)) ∧ Below w.heap.size w w' := by
  go_enter Tryz.func170, Tryz.ntmps170
  go_wp2_with fail
  refine (apply_Add A A' n c c' x y _ ha hb hn).mono ?_
  rintro e w1 ⟨g, rfl, hown, hb1⟩
  obtain ⟨A2, c2, hv, hsl⟩ := Sl.of_own hown
  injection hv with e1 e2 e3
  subst e1 e3
  go_wp2_with fail
  go_ret
  exact ⟨_, _, rfl, hsl, hb1⟩
theorem limb_Add_no (A A' : Option Addr) (n c m c' : Nat) (w : World) (f g : Nat → Int) (ha : Sl w .u64 A n c f) (hb : Sl w .u64 A' m c' g) (hn : (isN n && isN m) = false ∨ n ≠ m) :
    Calls Tryz.prog 170 #[.slice A n c, .slice A' m c'] w fun e w' => e = .returned (.slice none 0 0) ∧ Below w.heap.size w w' := by
  have HN := Lib.hid hn; clear hn
  go_enter Tryz.func170, Tryz.ntmps170
  go_wp2_with fail
  refine (apply_Add_no A A' n c m c' _ f g ha hb HN.out).mono ?_
  rintro e w1 ⟨rfl, hb1⟩
  go_wp2_with fail
  go_ret
  exact ⟨rfl, hb1⟩

theorem apply_Sub_no (A A' : Option Addr) (n c m c' : Nat) (w : World) (f g : Nat → Int) (ha : Sl w .u64 A n c f) (hb : Sl w .u64 A' m c' g) (hn : (isN n && isN m) = false ∨ n ≠ m) :
    Calls Tryz.prog 129 #[.agg #[.func (.func 128) #[] #[]], .slice A n c, .slice A' m c', .int .u64 0] w fun e w' => e = .returned (.slice none 0 0) ∧ Below w.heap.size w w' := by
  have hmax := ha.max; have hmax' := hb.max; have hcap := ha.cap; have hcap' := hb.cap
  have hbw := ((Below.refl w.heap.size w).alloc (Nat.le_refl _) (.cells #[.func (.func 128) #[] #[]] 190)).alloc (by simp) (.cells #[.slice A n c, .slice A' m c'] 93)
  have HB := Lib.hid hbw; clear hbw ha hb
  cases hi : (isN n && isN m)
  · have HI := Lib.hid hi; clear hi hn
    go_enter Tryz.func129, Tryz.ntmps129
    go_wp2_with fail
    refine (limb_is2 _ A A' n c m c' (by omega) (by omega) _ (by simp [go_sem]) (by simp [go_sem])).mono ?_
    rintro e w1 ⟨rfl, rfl⟩
    rw [HI.out]
    go_wp2_with fail
    go_ret
    exact ⟨rfl, HB.out⟩
  · have hne : ((n : Int) != (m : Int)) = true := by
      have : n ≠ m := by rcases hn with h | h; (rw [hi] at h; cases h); exact h
      simp; omega
    have HI := Lib.hid hi; clear hi hn
    go_enter Tryz.func129, Tryz.ntmps129
    go_wp2_with fail
    refine (limb_is2 _ A A' n c m c' (by omega) (by omega) _ (by simp [go_sem]) (by simp [go_sem])).mono ?_
    rintro e w1 ⟨rfl, rfl⟩
    rw [HI.out]
    go_wp2_with fail
    go_ret
    exact ⟨rfl, HB.out⟩

theorem limb_Sub (A A' : Option Addr) (n c c' : Nat) (x y : Int) (w : World) (ha : Sl w .u64 A n c (lmb x)) (hb : Sl w .u64 A' n c' (lmb y)) (hn : isN n = true) :
    Calls Tryz.prog 106 #[.slice A n c, .slice A' n c'] w fun e w' => ∃ A2 c2, e = .returned (.slice A2 n c2) ∧ Sl w' .u64 A2 n c2 (lmb (x - y)) ∧ Below w.heap.size w w' := by
  go_enter Tryz.func106, Tryz.ntmps106
  go_wp2_with fail
  refine (apply_Sub A A' n c c' x y _ ha hb hn).mono ?_
  rintro e w1 ⟨g, rfl, hown, hb1⟩
  obtain ⟨A2, c2, hv, hsl⟩ := Sl.of_own hown
  injection hv with e1 e2 e3
  subst e1 e3
  go_wp2_with fail
  go_ret
  exact ⟨_, _, rfl, hsl, hb1⟩
theorem limb_Sub_no (A A' : Option Addr) (n c m c' : Nat) (w : World) (f g : Nat → Int) (ha : Sl w .u64 A n c f) (hb : Sl w .u64 A' m c' g) (hn : (isN n && isN m) = false ∨ n ≠ m) :
    Calls Tryz.prog 106 #[.slice A n c, .slice A' m c'] w fun e w' => e = .returned (.slice none 0 0) ∧ Below w.heap.size w w' := by
  have HN := Lib.hid hn; clear hn
  go_enter Tryz.func106, Tryz.ntmps106
  go_wp2_with fail
  refine (apply_Sub_no A A' n c m c' _ f g ha hb HN.out).mono ?_
  rintro e w1 ⟨rfl, hb1⟩
  go_wp2_with fail
  go_ret
  exact ⟨rfl, hb1⟩

end Go.Proofs.YtjdiilkljgljkaaGreatDoor
namespace Go.Proofs.YtjdiilkljgljkaaGreatDoor
set_option linter.unusedVariables false
set_option linter.unusedSimpArgs false
open Go.RowKit Wd

/-- the row while a product's row is under way -/
def mid (x y : Int) (i j : Nat) : Nat → Int := fun k => if k < i + j then lmb (prt x y (i + 1)) k else lmb (prt x y i) k
theorem mid_zero (x y : Int) (i k : Nat) : lmb (prt x y i) k = mid x y i 0 k := by
  unfold mid; split
  · rw [prt_low x y (by omega)]
  · rfl
theorem mid_at (x y : Int) (i j : Nat) : mid x y i j (i + j) = lmb (prt x y i) (i + j) := by unfold mid; rw [if_neg (by omega)]
theorem mid_next (x y : Int) (i j : Nat) : lmb (prt x y (i + 1)) (i + j) = mid x y i (j + 1) (i + j) := by unfold mid; rw [if_pos (by omega)]
theorem mid_other (x y : Int) (i j k : Nat) (h : k ≠ i + j) : mid x y i j k = mid x y i (j + 1) k := by
  unfold mid
  by_cases h1 : k < i + j
  · rw [if_pos h1, if_pos (by omega)]
  · rw [if_neg h1, if_neg (by omega)]
theorem mid_end (x y : Int) (i n k : Nat) (hi : i ≤ n) (hk : k < n) : mid x y i (n - i) k = lmb (prt x y (i + 1)) k := by unfold mid; rw [if_pos (by omega)]

theorem word_MulAdd_step (x y : Int) (i j : Nat) (w : World) : Calls Tryz.prog 151 #[.int .u64 (lmb x i), .int .u64 (lmb y j), .int .u64 (lmb (prt x y i) (i + j)), .int .u64 (kar x y i j)] w fun e w' => e = .returned (.tuple #[.int .u64 (kar x y i (j + 1)), .int .u64 (lmb (prt x y (i + 1)) (i + j))]) ∧ w' = w := by
  have hk := isW_kar x y i j
  have h := word_MulAdd _ _ _ _ (isW_lmb x i) (isW_lmb y j) (isW_lmb (prt x y i) (i + j)) hk w
  rw [(kar_step x y i j hk).1, (kar_step x y i j hk).2.1] at h
  exact calls_flip h

set_option maxRecDepth 100000 in
set_option maxHeartbeats 4000000 in
theorem limb_Mul (A A' : Option Addr) (n c m c' : Nat) (x y : Int) (w : World) (ha : Sl w .u64 A n c (lmb x)) (hb : Sl w .u64 A' m c' (lmb y)) (hx : Fit n x) (hy : Fit m y) (hn : isN n = true) (hm : isN m = true) (hs : n + m ≤ 8) :
    Calls Tryz.prog 127 #[.slice A n c, .slice A' m c'] w fun e w' => ∃ A2 c2, e = .returned (.slice A2 (n + m) c2) ∧ Sl w' .u64 A2 (n + m) c2 (lmb (x * y)) ∧ Below w.heap.size w w' := by
  obtain ⟨i0, hi0, hz0, hz1, hz2⟩ := info_parts info_u64
  have hn' := isN_true hn
  have hm' := isN_true hm
  have hmax := ha.max; have hmax' := hb.max; have hcap := ha.cap; have hcap' := hb.cap
  have hN : isN (n + m) = true := by simp [isN]; omega
  have hI : (isN n && isN m) = true := by rw [hn, hm]; rfl
  have HI := Lib.hid hI; have HN := Lib.hid hn; have HM := Lib.hid hm; have HNM := Lib.hid hN; have HX := Lib.hid hx; have HY := Lib.hid hy
  clear hI hn hm hN hx hy
  have hd : decide (8 < (n : Int) + (m : Int)) = false := by simp; omega
  go_enter Tryz.func127, Tryz.ntmps127
  go_wp2_with fail
  refine (limb_is2 _ A A' n c m c' (by omega) (by omega) _ (by simp [go_sem]) (by simp [go_sem])).mono ?_
  rintro e w1 ⟨rfl, rfl⟩
  rw [HI.out]
  go_wp2_with fail
  refine (limb_Extend A n c x _ (n + m) (by omega) _ (ha.alloc _) HX.out HN.out HNM.out).mono ?_
  rintro e w1 ⟨X, cx, rfl, hsx, hb1⟩
  have hbb1 : Below w.heap.size w w1 := ((Below.refl w.heap.size w).alloc (Nat.le_refl _) _).trans (hb1.mono (by simp))
  have hb' := hb.below hbb1 (Nat.le_refl _)
  go_wp2_with fail
  refine (limb_Extend A' m c' y _ (n + m) (by omega) _ hb' HY.out HM.out HNM.out).mono ?_
  rintro e w2 ⟨Y, cy, rfl, hsy, hb2⟩
  have hsx2 := hsx.below hb2 (Nat.le_refl _)
  have hbb2 : Below w.heap.size w w2 := hbb1.trans (hb2.mono hbb1.size)
  clear hsx hb1 hb2 hb' hbb1 ha hb
  obtain ⟨xb, xo, rfl, hxlt, hxc⟩ := hsx2.at_ (by omega)
  obtain ⟨yb, yo, rfl, hylt, hyc⟩ := hsy.at_ (by omega)
  have hxcap := hsx2.cap; have hycap := hsy.cap; have hxm := hsx2.max; have hym := hsy.max
  have HXC := Lib.hid hxc; have HYC := Lib.hid hyc; have HBB := Lib.hid hbb2
  clear hsx2 hsy hxc hyc hbb2
  go_wp2_with (at_make; refine wpList_make_full _ rfl _ _ 93 rfl w2.heap.size 61 i0 (.int .u64 0) 1 Tryz.underlying93 hi0 hz0 hz1 .i64 .i64 ((n : Int) + (m : Int)) ((n : Int) + (m : Int)) (n + m) rfl rfl (by omega) (by omega) (by rw [hz2]; omega) (by unfold maxLen; omega) (Nat.le_refl _) ?_)
  intro w3 hown hgrow
  have hb3 : Below w2.heap.size w2 w3 := (Below.refl _ _).grown hgrow (Nat.le_refl _) (by intro k hk; cases hk)
  rw [toList_madeCells_one, row_zero .u64 (lmb 0) (n + m), row_congr (g := lmb (prt x y 0)) (by intro i _; simp [upd, prt_zero, lmb_zero])] at hown
  have HO := Lib.hid hown; have HB3 := Lib.hid hb3
  have hg1 : w2.heap.size < w3.heap.size := (hown.lt _ rfl).2
  clear hown hb3 hgrow
  go_wp2_with fail
  go_loopw [35] (fun i wr => ∃ k : Nat, k ≤ n + m ∧ i = .int .i64 k ∧ wr.ownsRow w2.heap.size 61 1 (.slice (some ⟨w2.heap.size, 0, none⟩) (n + m) (n + m)) (n + m) (row .u64 (lmb (prt x y k)) (n + m)) ∧ Below w2.heap.size w2 wr)
    (fun i _ => n + m - (intOf i).toNat)
  case atStart => exact ⟨0, Nat.zero_le _, rfl, HO.out, HB3.out⟩
  case round =>
    clear HO HB3
    obtain ⟨k, hk, rfl, hown, hbr⟩ := hrel
    by_cases hlt2 : k < n + m
    · obtain ⟨wo, rfl⟩ : ∃ wo : World, wo = wr := ⟨_, rfl⟩
      have HOW := Lib.hid hown; have HBR := Lib.hid hbr
      clear hown hbr
      have hd2 : decide ((k : Int) < (n : Int) + (m : Int)) = true := by simp; omega
      go_wp2_with fail
      go_loopw [10, 41] (fun cr j wr => ∃ l : Nat, l ≤ n + m - k ∧ j = .int .i64 l ∧ cr = .int .u64 (kar x y k l) ∧ wr.ownsRow w2.heap.size 61 1 (.slice (some ⟨w2.heap.size, 0, none⟩) (n + m) (n + m)) (n + m) (row .u64 (mid x y k l) (n + m)) ∧ Below w2.heap.size w2 wr)
        (fun _ j _ => n + m - k - (intOf j).toNat)
      case atStart => exact ⟨0, Nat.zero_le _, rfl, by rw [kar_zero], own_congr HOW.out (fun i _ => mid_zero x y k i), HBR.out⟩
      case round =>
        clear HOW HBR
        obtain ⟨l, hl, rfl, rfl, hown, hbr⟩ := hrel
        by_cases hlt3 : l < n + m - k
        · have c1 : wr.cell? ⟨xb, xo + k, none⟩ = some (.int .u64 (lmb x k)) := (hbr.cell (p := ⟨xb, xo + k, none⟩) hxlt).trans (HXC.out k hlt2)
          have c2 : wr.cell? ⟨yb, yo + l, none⟩ = some (.int .u64 (lmb y l)) := (hbr.cell (p := ⟨yb, yo + l, none⟩) hylt).trans (HYC.out l (by omega))
          have c3 : wr.cell? ⟨w2.heap.size, k + l, none⟩ = some (.int .u64 (lmb (prt x y k) (k + l))) := by rw [← mid_at x y k l]; exact own_cell hown (by omega)
          have c4 : wr.frozen? ⟨w2.heap.size, k + l, none⟩ = false := World.ownsRow.frozenAt hown (k + l)
          have HOW := Lib.hid hown; have HBR := Lib.hid hbr
          clear hown hbr HXC HYC HI HN HM HNM HX HY
          go_wp2_with fail
          have s1 : IntKind.i64.wrap ((k : Int) + (l : Int)) = (k : Int) + (l : Int) := IntWalk.i64_in _ (by omega)
          have s2 : (0 : Int) ≤ (k : Int) + (l : Int) := by omega
          have s3 : ((k : Int) + (l : Int)).toNat = k + l := by omega
          have s4 : (k : Int) + (l : Int) < (n : Int) + (m : Int) := by omega
          have s5 : (k : Int) < (n : Int) + (m : Int) := by omega
          have s6 : (l : Int) < (n : Int) + (m : Int) := by omega
          go_region_with (go_at_call 151; refine (word_MulAdd_step x y k l _).mono ?_; rintro e w' ⟨rfl, rfl⟩)
          all_goals
            clear s1 s3
            go_wp2_with fail
            go_roundw
            case rel => exact ⟨l + 1, by omega, by go_num, rfl, (own_set HOW.out (mid_next x y k l) (fun i _ hne => mid_other x y k l i hne)).drew, (HBR.out.setCell (p := ⟨w2.heap.size, k + l, none⟩) (Nat.le_refl _) _).drew⟩
            case measure => simp [intOf]; omega
        · have hown' := own_congr hown (g := lmb (prt x y (k + 1))) (fun i hi => by rw [show l = n + m - k from by omega]; exact mid_end x y k (n + m) i hk hi)
          have HOW := Lib.hid hown'; have HBR := Lib.hid hbr
          clear hown hown' hbr
          go_wp2_with fail
          go_roundw
          case rel => exact ⟨k + 1, by omega, by go_num, HOW.out, HBR.out⟩
          case measure => simp [intOf]; omega
    · obtain rfl : k = n + m := by omega
      obtain ⟨A2, c2, hv, hsl⟩ := Sl.of_own hown
      injection hv with e1 e2 e3
      subst e1 e3
      have HSL := Lib.hid (hsl.congr (g := lmb (x * y)) (fun i hi => prt_last x y hi)); have HBR := Lib.hid hbr
      clear hown hsl hbr
      go_wp2_with fail
      go_ret
      exact ⟨_, _, rfl, HSL.out, HBB.out.trans (HBR.out.mono HBB.out.size)⟩
end Go.Proofs.YtjdiilkljgljkaaGreatDoor
namespace Go.Proofs.YtjdiilkljgljkaaGreatDoor
set_option linter.unusedVariables false
set_option linter.unusedSimpArgs false
open Go.RowKit Wd

theorem fit_sub {x y : Int} (hx : IsI x) (hy : IsI y) : Fit 2 (x - y) := by
  unfold Fit IsI at *
  rw [show S 2 = 340282366920938463463374607431768211456 from rfl]; omega
def vB (n m : Nat) : Bool := decide (n = 2 ∧ m = 2)
theorem vB_false {n m : Nat} (h : vB n m = false) : n ≠ 2 ∨ m ≠ 2 := by simp [vB] at h; omega
theorem vB_true {n m : Nat} (h : vB n m = true) : n = 2 ∧ m = 2 := by simpa [vB] using h
theorem ne2 {n : Nat} (h : n ≠ 2) : ((n : Int) != 2) = true := by simp; omega

set_option maxHeartbeats 1000000 in
theorem diff_is1 (bb : Nat) (A0 : Option Addr) (n0 c0 : Nat) (A1 : Option Addr) (n1 c1 : Nat) (w : World) (m0 : n0 ≤ maxLen) (m1 : n1 ≤ maxLen) (g0 : w.cell? ⟨bb, 0, none⟩ = some (.slice A0 n0 c0)) (g1 : w.cell? ⟨bb, 1, none⟩ = some (.slice A1 n1 c1)) :
    Calls Tryz.prog 126 #[.slice (some ⟨bb, 0, none⟩) 1 1] w fun e w' => e = .returned (.bool (vB n0 n1)) ∧ Below w.heap.size w w' := by
  have l0 : bb < w.heap.size := lt_of_cell' g0
  have l1 : bb < w.heap.size := lt_of_cell' g1
  unfold maxLen at m0 m1
  by_cases h0 : n0 = 2
  rotate_left
  · have e0 := ne2 h0
    rw [show (vB n0 n1) = false from by simp [vB, h0]]
    go_enter Tryz.func126, Tryz.ntmps126
    go_wp2
    refine wp_loop_rounds 2 ?_
    rw [rounds_succ]
    go_wp2
    go_ret
    exact ⟨rfl, ((Below.refl w.heap.size w).alloc (Nat.le_refl _) _)⟩
  subst h0
  by_cases h1 : n1 = 2
  rotate_left
  · have e1 := ne2 h1
    rw [show (vB 2 n1) = false from by simp [vB, h1]]
    go_enter Tryz.func126, Tryz.ntmps126
    go_wp2
    refine wp_loop_rounds 2 ?_
    rw [rounds_succ]
    go_wp2
    go_ret
    exact ⟨rfl, ((Below.refl w.heap.size w).alloc (Nat.le_refl _) _)⟩
  subst h1
  rw [show (vB 2 2) = true from rfl]
  go_enter Tryz.func126, Tryz.ntmps126
  go_wp2
  refine wp_loop_rounds 2 ?_
  rw [rounds_succ]
  go_wp2
  rw [rounds_succ]
  go_wp2
  go_ret
  exact ⟨rfl, ((Below.refl w.heap.size w).alloc (Nat.le_refl _) _)⟩

set_option maxHeartbeats 1000000 in
theorem diff_is2 (bb : Nat) (A0 : Option Addr) (n0 c0 : Nat) (A1 : Option Addr) (n1 c1 : Nat) (A2 : Option Addr) (n2 c2 : Nat) (A3 : Option Addr) (n3 c3 : Nat) (w : World) (m0 : n0 ≤ maxLen) (m1 : n1 ≤ maxLen) (m2 : n2 ≤ maxLen) (m3 : n3 ≤ maxLen) (g0 : w.cell? ⟨bb, 0, none⟩ = some (.slice A0 n0 c0)) (g1 : w.cell? ⟨bb, 1, none⟩ = some (.slice A1 n1 c1)) (g2 : w.cell? ⟨bb, 2, none⟩ = some (.slice A2 n2 c2)) (g3 : w.cell? ⟨bb, 3, none⟩ = some (.slice A3 n3 c3)) :
    Calls Tryz.prog 126 #[.slice (some ⟨bb, 0, none⟩) 2 2] w fun e w' => e = .returned (.bool (vB n0 n1 && vB n2 n3)) ∧ Below w.heap.size w w' := by
  have l0 : bb < w.heap.size := lt_of_cell' g0
  have l1 : bb < w.heap.size := lt_of_cell' g1
  have l2 : bb < w.heap.size := lt_of_cell' g2
  have l3 : bb < w.heap.size := lt_of_cell' g3
  unfold maxLen at m0 m1 m2 m3
  by_cases h0 : n0 = 2
  rotate_left
  · have e0 := ne2 h0
    rw [show (vB n0 n1 && vB n2 n3) = false from by simp [vB, h0]]
    go_enter Tryz.func126, Tryz.ntmps126
    go_wp2
    refine wp_loop_rounds 3 ?_
    rw [rounds_succ]
    go_wp2
    go_ret
    exact ⟨rfl, ((Below.refl w.heap.size w).alloc (Nat.le_refl _) _)⟩
  subst h0
  by_cases h1 : n1 = 2
  rotate_left
  · have e1 := ne2 h1
    rw [show (vB 2 n1 && vB n2 n3) = false from by simp [vB, h1]]
    go_enter Tryz.func126, Tryz.ntmps126
    go_wp2
    refine wp_loop_rounds 3 ?_
    rw [rounds_succ]
    go_wp2
    go_ret
    exact ⟨rfl, ((Below.refl w.heap.size w).alloc (Nat.le_refl _) _)⟩
  subst h1
  by_cases h2 : n2 = 2
  rotate_left
  · have e2 := ne2 h2
    rw [show (vB 2 2 && vB n2 n3) = false from by simp [vB, h2]]
    go_enter Tryz.func126, Tryz.ntmps126
    go_wp2
    refine wp_loop_rounds 3 ?_
    rw [rounds_succ]
    go_wp2
    rw [rounds_succ]
    go_wp2
    go_ret
    exact ⟨rfl, (((Below.refl w.heap.size w).alloc (Nat.le_refl _) _).alloc (by simp; try omega) _)⟩
  subst h2
  by_cases h3 : n3 = 2
  rotate_left
  · have e3 := ne2 h3
    rw [show (vB 2 2 && vB 2 n3) = false from by simp [vB, h3]]
    go_enter Tryz.func126, Tryz.ntmps126
    go_wp2
    refine wp_loop_rounds 3 ?_
    rw [rounds_succ]
    go_wp2
    rw [rounds_succ]
    go_wp2
    go_ret
    exact ⟨rfl, (((Below.refl w.heap.size w).alloc (Nat.le_refl _) _).alloc (by simp; try omega) _)⟩
  subst h3
  rw [show (vB 2 2 && vB 2 2) = true from rfl]
  go_enter Tryz.func126, Tryz.ntmps126
  go_wp2
  refine wp_loop_rounds 3 ?_
  rw [rounds_succ]
  go_wp2
  rw [rounds_succ]
  go_wp2
  rw [rounds_succ]
  go_wp2
  go_ret
  exact ⟨rfl, (((Below.refl w.heap.size w).alloc (Nat.le_refl _) _).alloc (by simp; try omega) _)⟩

set_option maxHeartbeats 1000000 in
theorem diff_Coordinate (a b : Int) (ha : IsI a) (hb : IsI b) (w : World) :
    Calls Tryz.prog 107 #[.int .i64 a, .int .i64 b] w fun e w' => (∃ A c, e = .returned (.slice A 2 c) ∧ Sl w' .u64 A 2 c (lmb (a - b))) ∧ Below w.heap.size w w' := by
  have HB0 := Lib.hid (Below.refl w.heap.size w)
  go_enter Tryz.func107, Tryz.ntmps107
  go_wp2_with fail
  refine (limb_From a 2 2 rfl ha rfl _).mono ?_
  rintro e w1 ⟨A1, c1, rfl, SA, B⟩
  have HB1 := Lib.hid (HB0.out.trans (B.mono HB0.out.size))
  have FA_1 := Lib.hid SA
  clear B SA HB0
  go_wp2_with fail
  refine (limb_From b 2 2 rfl hb rfl _).mono ?_
  rintro e w2 ⟨A2, c2, rfl, SB, B⟩
  have HB2 := Lib.hid (HB1.out.trans (B.mono HB1.out.size))
  have FA_2 := Lib.hid (FA_1.out.below B (Nat.le_refl _))
  have FB_2 := Lib.hid SB
  clear B SB HB1 FA_1
  go_wp2_with fail
  refine (limb_Sub _ _ _ _ _ _ _ _ FA_2.out FB_2.out rfl).mono ?_
  rintro e w3 ⟨A3, c3, rfl, SC, B⟩
  have HB3 := Lib.hid (HB2.out.trans (B.mono HB2.out.size))
  have FA_3 := Lib.hid (FA_2.out.below B (Nat.le_refl _))
  have FB_3 := Lib.hid (FB_2.out.below B (Nat.le_refl _))
  have FC_3 := Lib.hid SC
  clear B SC HB2 FA_2 FB_2
  go_wp2_with fail
  go_ret
  exact ⟨⟨_, _, rfl, FC_3.out⟩, HB3.out⟩

set_option maxHeartbeats 1000000 in
theorem diff_Between (ax ay bx b_ : Int) (h1 : IsI ax) (h2 : IsI ay) (h3 : IsI bx) (h4 : IsI b_) (w : World) :
    Calls Tryz.prog 76 #[.agg #[.int .i64 ax, .int .i64 ay], .agg #[.int .i64 bx, .int .i64 b_]] w fun e w' => (∃ A c A' c', e = .returned (.agg #[.slice A 2 c, .slice A' 2 c']) ∧ Sl w' .u64 A 2 c (lmb (bx - ax)) ∧ Sl w' .u64 A' 2 c' (lmb (b_ - ay))) ∧ Below w.heap.size w w' := by
  have HB0 := Lib.hid (Below.refl w.heap.size w)
  go_enter Tryz.func76, Tryz.ntmps76
  go_wp2_with fail
  have B : Below w.heap.size w (((w.alloc (.cells #[.int .i64 ax, .int .i64 ay] 23)).alloc (.cells #[.int .i64 bx, .int .i64 b_] 23)).alloc (.cells #[.slice none 0 0, .slice none 0 0] 124)) := (((HB0.out.alloc HB0.out.size _).alloc (HB0.out.alloc HB0.out.size _).size _).alloc ((HB0.out.alloc HB0.out.size _).alloc (HB0.out.alloc HB0.out.size _).size _).size _)
  have C : Below w.heap.size w (((w.alloc (.cells #[.int .i64 ax, .int .i64 ay] 23)).alloc (.cells #[.int .i64 bx, .int .i64 b_] 23)).alloc (.cells #[.slice none 0 0, .slice none 0 0] 124)) := ((((Below.refl w.heap.size w).alloc (Nat.le_refl _) _).alloc (by simp; try omega) _).alloc (by simp; try omega) _)
  have X0 : Bx (((w.alloc (.cells #[.int .i64 ax, .int .i64 ay] 23)).alloc (.cells #[.int .i64 bx, .int .i64 b_] 23)).alloc (.cells #[.slice none 0 0, .slice none 0 0] 124)) (w.heap.size) #[.int .i64 ax, .int .i64 ay] 23 := by simpa using (((Bx.new w #[.int .i64 ax, .int .i64 ay] 23).alloc _).alloc _)
  have X1 : Bx (((w.alloc (.cells #[.int .i64 ax, .int .i64 ay] 23)).alloc (.cells #[.int .i64 bx, .int .i64 b_] 23)).alloc (.cells #[.slice none 0 0, .slice none 0 0] 124)) (w.heap.size + 1) #[.int .i64 bx, .int .i64 b_] 23 := by simpa using ((Bx.new (w.alloc (.cells #[.int .i64 ax, .int .i64 ay] 23)) #[.int .i64 bx, .int .i64 b_] 23).alloc _)
  have X2 : Bx (((w.alloc (.cells #[.int .i64 ax, .int .i64 ay] 23)).alloc (.cells #[.int .i64 bx, .int .i64 b_] 23)).alloc (.cells #[.slice none 0 0, .slice none 0 0] 124)) (w.heap.size + 1 + 1) #[.slice none 0 0, .slice none 0 0] 124 := by simpa using (Bx.new ((w.alloc (.cells #[.int .i64 ax, .int .i64 ay] 23)).alloc (.cells #[.int .i64 bx, .int .i64 b_] 23)) #[.slice none 0 0, .slice none 0 0] 124)
  have HB1 := Lib.hid B
  have FP_1 := Lib.hid X0
  have FQ_1 := Lib.hid X1
  have FR_1 := Lib.hid X2
  clear B C X0 X1 X2 HB0 
  generalize (((w.alloc (.cells #[.int .i64 ax, .int .i64 ay] 23)).alloc (.cells #[.int .i64 bx, .int .i64 b_] 23)).alloc (.cells #[.slice none 0 0, .slice none 0 0] 124)) = w1 at *
  have RB1 := Lib.hid (below_drew0 w1)
  have QS1 := Lib.hid (show w1.cell? ⟨w.heap.size, 0, none⟩ = some (.int .i64 ax) ∧ w1.cell? ⟨w.heap.size, 1, none⟩ = some (.int .i64 ay) ∧ w1.cell? ⟨w.heap.size + 1, 0, none⟩ = some (.int .i64 bx) ∧ w1.cell? ⟨w.heap.size + 1, 1, none⟩ = some (.int .i64 b_) from ⟨FP_1.out.cell 0 (v := .int .i64 ax) rfl, FP_1.out.cell 1 (v := .int .i64 ay) rfl, FQ_1.out.cell 0 (v := .int .i64 bx) rfl, FQ_1.out.cell 1 (v := .int .i64 b_) rfl⟩)
  have QF1 := Lib.hid (show ∀ w', Below w1.heap.size w1 w' → w'.cell? ⟨w.heap.size, 0, none⟩ = some (.int .i64 ax) ∧ w'.cell? ⟨w.heap.size, 1, none⟩ = some (.int .i64 ay) ∧ w'.cell? ⟨w.heap.size + 1, 0, none⟩ = some (.int .i64 bx) ∧ w'.cell? ⟨w.heap.size + 1, 1, none⟩ = some (.int .i64 b_) from fun w' hb => ⟨(FP_1.out.below hb (Nat.le_refl _)).cell 0 (v := .int .i64 ax) rfl, (FP_1.out.below hb (Nat.le_refl _)).cell 1 (v := .int .i64 ay) rfl, (FQ_1.out.below hb (Nat.le_refl _)).cell 0 (v := .int .i64 bx) rfl, (FQ_1.out.below hb (Nat.le_refl _)).cell 1 (v := .int .i64 b_) rfl⟩)
  go_region_held3 (fun w' => w'.cell? ⟨w.heap.size, 0, none⟩ = some (.int .i64 ax) ∧ w'.cell? ⟨w.heap.size, 1, none⟩ = some (.int .i64 ay) ∧ w'.cell? ⟨w.heap.size + 1, 0, none⟩ = some (.int .i64 bx) ∧ w'.cell? ⟨w.heap.size + 1, 1, none⟩ = some (.int .i64 b_)) (first | with_reducible exact QF1.out _ RB3.out | with_reducible exact QF1.out _ RB2.out | with_reducible exact QS1.out | with_reducible exact QF1.out _ RB1.out | with_reducible exact ⟨keep_set (keep_set (QF1.out _ RB3.out).1 (by simp <;> omega)) (by simp <;> omega), keep_set (keep_set (QF1.out _ RB3.out).2.1 (by simp <;> omega)) (by simp <;> omega), keep_set (keep_set (QF1.out _ RB3.out).2.2.1 (by simp <;> omega)) (by simp <;> omega), keep_set (keep_set (QF1.out _ RB3.out).2.2.2 (by simp <;> omega)) (by simp <;> omega)⟩) (first
      | (go_at_call 107; have := RB2; clear this; refine (diff_Coordinate b_ ay h4 h2 _).mono ?_; rintro e w3 ⟨⟨A2, c2, rfl, S2⟩, B⟩; have RB3 := Lib.hid (RB2.out.trans (B.mono RB2.out.size)); have RV1_3 := Lib.hid (RV1_2.out.below B (Nat.le_refl _)); have RV2_3 := Lib.hid S2; clear B S2; have q0 := (FR_1.out.below RB3.out (Nat.le_refl _)).cell 0 (v := .slice none 0 0) rfl; have q1 := (FR_1.out.below RB3.out (Nat.le_refl _)).cell 1 (v := .slice none 0 0) rfl; have q2 := (FR_1.out.below RB3.out (Nat.le_refl _)).free 0; have q3 := (FR_1.out.below RB3.out (Nat.le_refl _)).free 1)
      | (go_at_call 107; have := RB1; clear this; refine (diff_Coordinate bx ax h3 h1 _).mono ?_; rintro e w2 ⟨⟨A1, c1, rfl, S1⟩, B⟩; have RB2 := Lib.hid (RB1.out.trans (B.mono RB1.out.size)); have RV1_2 := Lib.hid S1; clear B S1))
  have FP_3 := Lib.hid (FP_1.out.below RB3.out (Nat.le_refl _))
  have FQ_3 := Lib.hid (FQ_1.out.below RB3.out (Nat.le_refl _))
  have FR_3 := Lib.hid (FR_1.out.below RB3.out (Nat.le_refl _))
  have HB3 := Lib.hid (HB1.out.trans (RB3.out.mono HB1.out.size))
  clear HB1 FP_1 FQ_1 FR_1
  go_wp2_with fail
  have r1 := FR_3.out.set 0 (.slice A1 2 c1)
  refine bodyPost_ret (v := .agg #[.slice A1 2 c1, .slice A2 2 c2]) (by simp [results, Tryz.results76, go_sem, q0, q1]) rfl ⟨⟨A1, c1, A2, c2, rfl, (RV1_3.out.set FR_3.out (by simp)).set r1 (by simp), (RV2_3.out.set FR_3.out (by simp)).set r1 (by simp)⟩, ?_⟩
  exact (HB3.out.setCell (p := ⟨w.heap.size + 1 + 1, 0, none⟩) (by simp <;> omega) _).setCell (p := ⟨w.heap.size + 1 + 1, 1, none⟩) (by simp <;> omega) _

theorem diff_turned (A : Option Addr) (n c : Nat) (A' : Option Addr) (n' c' : Nat) (w : World) :
    Calls Tryz.prog 104 #[.agg #[.slice A n c, .slice A' n' c']] w fun e w' => e = .returned (.agg #[.slice A' n' c', .slice A n c]) ∧ Below w.heap.size w w' := by
  go_enter Tryz.func104, Tryz.ntmps104
  go_wp2
  exact bodyPost_ret (v := .agg #[.slice A' n' c', .slice A n c]) (by simp [results, Tryz.results104, go_sem]) rfl ⟨rfl, ((Below.refl w.heap.size w).alloc (Nat.le_refl _) _).alloc (by simp) _⟩
theorem diff_same (A : Option Addr) (n c : Nat) (A' : Option Addr) (n' c' : Nat) (w : World) :
    Calls Tryz.prog 176 #[.agg #[.slice A n c, .slice A' n' c']] w fun e w' => e = .returned (.agg #[.slice A n c, .slice A' n' c']) ∧ Below w.heap.size w w' := by
  go_enter Tryz.func176, Tryz.ntmps176
  go_wp2
  exact bodyPost_ret (v := .agg #[.slice A n c, .slice A' n' c']) (by simp [results, Tryz.results176, go_sem]) rfl ⟨rfl, ((Below.refl w.heap.size w).alloc (Nat.le_refl _) _).alloc (by simp) _⟩
set_option maxHeartbeats 1000000 in
theorem diff_comb_Cross (A A' : Option Addr) (n c c' : Nat) (x y : Int) (w : World) (ha : Sl w .u64 A n c (lmb x)) (hb : Sl w .u64 A' n c' (lmb y)) (hn : isN n = true) :
    Calls Tryz.prog 105 #[.slice A n c, .slice A' n c'] w fun e w' => (∃ A2 c2, e = .returned (.slice A2 n c2) ∧ Sl w' .u64 A2 n c2 (lmb (x - y))) ∧ Below w.heap.size w w' := by
  have HB0 := Lib.hid (Below.refl w.heap.size w)
  have FA := Lib.hid ha
  have FB := Lib.hid hb
  clear ha hb
  go_enter Tryz.func105, Tryz.ntmps105
  go_wp2_with fail
  refine (limb_Sub _ _ _ _ _ _ _ _ FA.out FB.out hn).mono ?_
  rintro e w1 ⟨A2, c2, rfl, SC, B⟩
  have HB1 := Lib.hid (HB0.out.trans (B.mono HB0.out.size))
  have FA_1 := Lib.hid (FA.out.below B (Nat.le_refl _))
  have FB_1 := Lib.hid (FB.out.below B (Nat.le_refl _))
  have FC_1 := Lib.hid SC
  clear B SC HB0 FA FB
  go_wp2_with fail
  go_ret
  exact ⟨⟨_, _, rfl, FC_1.out⟩, HB1.out⟩

set_option maxHeartbeats 1000000 in
theorem diff_comb_Dot (A A' : Option Addr) (n c c' : Nat) (x y : Int) (w : World) (ha : Sl w .u64 A n c (lmb x)) (hb : Sl w .u64 A' n c' (lmb y)) (hn : isN n = true) :
    Calls Tryz.prog 177 #[.slice A n c, .slice A' n c'] w fun e w' => (∃ A2 c2, e = .returned (.slice A2 n c2) ∧ Sl w' .u64 A2 n c2 (lmb (x + y))) ∧ Below w.heap.size w w' := by
  have HB0 := Lib.hid (Below.refl w.heap.size w)
  have FA := Lib.hid ha
  have FB := Lib.hid hb
  clear ha hb
  go_enter Tryz.func177, Tryz.ntmps177
  go_wp2_with fail
  refine (limb_Add _ _ _ _ _ _ _ _ FA.out FB.out hn).mono ?_
  rintro e w1 ⟨A2, c2, rfl, SC, B⟩
  have HB1 := Lib.hid (HB0.out.trans (B.mono HB0.out.size))
  have FA_1 := Lib.hid (FA.out.below B (Nat.le_refl _))
  have FB_1 := Lib.hid (FB.out.below B (Nat.le_refl _))
  have FC_1 := Lib.hid SC
  clear B SC HB0 FA FB
  go_wp2_with fail
  go_ret
  exact ⟨⟨_, _, rfl, FC_1.out⟩, HB1.out⟩

set_option maxHeartbeats 1000000 in
theorem diff_products_Cross (A1 A2 A3 A4 : Option Addr) (c1 c2 c3 c4 : Nat) (x1 y1 x2 y2 : Int) (w : World) (a1 : Sl w .u64 A1 2 c1 (lmb x1)) (a2 : Sl w .u64 A2 2 c2 (lmb y1)) (a3 : Sl w .u64 A3 2 c3 (lmb x2)) (a4 : Sl w .u64 A4 2 c4 (lmb y2)) (f1 : Fit 2 x1) (f2 : Fit 2 y1) (f3 : Fit 2 x2) (f4 : Fit 2 y2) :
    Calls Tryz.prog 103 #[.agg #[.slice A1 2 c1, .slice A2 2 c2], .agg #[.slice A3 2 c3, .slice A4 2 c4], .func (.func 104) #[] #[], .func (.func 105) #[] #[]] w fun e w' => (∃ A c, e = .returned (.slice A 4 c) ∧ Sl w' .u64 A 4 c (lmb (x1 * y2 - y1 * x2))) ∧ Below w.heap.size w w' := by
  have HB0 := Lib.hid (Below.refl w.heap.size w)
  have FS1 := Lib.hid a1
  have FS2 := Lib.hid a2
  have FS3 := Lib.hid a3
  have FS4 := Lib.hid a4
  clear a1 a2 a3 a4
  go_enter Tryz.func103, Tryz.ntmps103
  go_wp2_with fail
  have B : Below w.heap.size w (((w.alloc (.cells #[.slice A1 2 c1, .slice A2 2 c2] 124)).alloc (.cells #[.slice A3 2 c3, .slice A4 2 c4] 124)).alloc (.cells #[.slice A1 2 c1, .slice A2 2 c2, .slice A3 2 c3, .slice A4 2 c4] 124)) := (((HB0.out.alloc HB0.out.size _).alloc (HB0.out.alloc HB0.out.size _).size _).alloc ((HB0.out.alloc HB0.out.size _).alloc (HB0.out.alloc HB0.out.size _).size _).size _)
  have C : Below w.heap.size w (((w.alloc (.cells #[.slice A1 2 c1, .slice A2 2 c2] 124)).alloc (.cells #[.slice A3 2 c3, .slice A4 2 c4] 124)).alloc (.cells #[.slice A1 2 c1, .slice A2 2 c2, .slice A3 2 c3, .slice A4 2 c4] 124)) := ((((Below.refl w.heap.size w).alloc (Nat.le_refl _) _).alloc (by simp; try omega) _).alloc (by simp; try omega) _)
  have X0 : Bx (((w.alloc (.cells #[.slice A1 2 c1, .slice A2 2 c2] 124)).alloc (.cells #[.slice A3 2 c3, .slice A4 2 c4] 124)).alloc (.cells #[.slice A1 2 c1, .slice A2 2 c2, .slice A3 2 c3, .slice A4 2 c4] 124)) (w.heap.size) #[.slice A1 2 c1, .slice A2 2 c2] 124 := by simpa using (((Bx.new w #[.slice A1 2 c1, .slice A2 2 c2] 124).alloc _).alloc _)
  have X1 : Bx (((w.alloc (.cells #[.slice A1 2 c1, .slice A2 2 c2] 124)).alloc (.cells #[.slice A3 2 c3, .slice A4 2 c4] 124)).alloc (.cells #[.slice A1 2 c1, .slice A2 2 c2, .slice A3 2 c3, .slice A4 2 c4] 124)) (w.heap.size + 1) #[.slice A3 2 c3, .slice A4 2 c4] 124 := by simpa using ((Bx.new (w.alloc (.cells #[.slice A1 2 c1, .slice A2 2 c2] 124)) #[.slice A3 2 c3, .slice A4 2 c4] 124).alloc _)
  have X2 : Bx (((w.alloc (.cells #[.slice A1 2 c1, .slice A2 2 c2] 124)).alloc (.cells #[.slice A3 2 c3, .slice A4 2 c4] 124)).alloc (.cells #[.slice A1 2 c1, .slice A2 2 c2, .slice A3 2 c3, .slice A4 2 c4] 124)) (w.heap.size + 1 + 1) #[.slice A1 2 c1, .slice A2 2 c2, .slice A3 2 c3, .slice A4 2 c4] 124 := by simpa using (Bx.new ((w.alloc (.cells #[.slice A1 2 c1, .slice A2 2 c2] 124)).alloc (.cells #[.slice A3 2 c3, .slice A4 2 c4] 124)) #[.slice A1 2 c1, .slice A2 2 c2, .slice A3 2 c3, .slice A4 2 c4] 124)
  have FS1_1 := Lib.hid (FS1.out.below C (Nat.le_refl _))
  have FS2_1 := Lib.hid (FS2.out.below C (Nat.le_refl _))
  have FS3_1 := Lib.hid (FS3.out.below C (Nat.le_refl _))
  have FS4_1 := Lib.hid (FS4.out.below C (Nat.le_refl _))
  have HB1 := Lib.hid B
  have FU_1 := Lib.hid X0
  have FV_1 := Lib.hid X1
  have FL_1 := Lib.hid X2
  clear B C X0 X1 X2 HB0 FS1 FS2 FS3 FS4
  generalize (((w.alloc (.cells #[.slice A1 2 c1, .slice A2 2 c2] 124)).alloc (.cells #[.slice A3 2 c3, .slice A4 2 c4] 124)).alloc (.cells #[.slice A1 2 c1, .slice A2 2 c2, .slice A3 2 c3, .slice A4 2 c4] 124)) = w1 at *
  skip
  refine (diff_is2 _ A1 2 c1 A2 2 c2 A3 2 c3 A4 2 c4 _ (by decide) (by decide) (by decide) (by decide) (FL_1.out.cell 0 (v := .slice A1 2 c1) rfl) (FL_1.out.cell 1 (v := .slice A2 2 c2) rfl) (FL_1.out.cell 2 (v := .slice A3 2 c3) rfl) (FL_1.out.cell 3 (v := .slice A4 2 c4) rfl)).mono ?_
  rintro e w2 ⟨rfl, B⟩
  have HB2 := Lib.hid (HB1.out.trans (B.mono HB1.out.size))
  have FS1_2 := Lib.hid (FS1_1.out.below B (Nat.le_refl _))
  have FS2_2 := Lib.hid (FS2_1.out.below B (Nat.le_refl _))
  have FS3_2 := Lib.hid (FS3_1.out.below B (Nat.le_refl _))
  have FS4_2 := Lib.hid (FS4_1.out.below B (Nat.le_refl _))
  have FU_2 := Lib.hid (FU_1.out.below B (Nat.le_refl _))
  have FV_2 := Lib.hid (FV_1.out.below B (Nat.le_refl _))
  have FL_2 := Lib.hid (FL_1.out.below B (Nat.le_refl _))
  clear B  HB1 FS1_1 FS2_1 FS3_1 FS4_1 FU_1 FV_1 FL_1
  rw [show (vB 2 2 && vB 2 2) = true from rfl]
  have hv0 := FV_2.out.cell 0 (v := .slice A3 2 c3) rfl
  have hv1 := FV_2.out.cell 1 (v := .slice A4 2 c4) rfl
  go_wp2_with fail
  refine (diff_turned _ _ _ _ _ _ _).mono ?_
  rintro e w3 ⟨rfl, B⟩
  have HB3 := Lib.hid (HB2.out.trans (B.mono HB2.out.size))
  have FS1_3 := Lib.hid (FS1_2.out.below B (Nat.le_refl _))
  have FS2_3 := Lib.hid (FS2_2.out.below B (Nat.le_refl _))
  have FS3_3 := Lib.hid (FS3_2.out.below B (Nat.le_refl _))
  have FS4_3 := Lib.hid (FS4_2.out.below B (Nat.le_refl _))
  have FU_3 := Lib.hid (FU_2.out.below B (Nat.le_refl _))
  have FV_3 := Lib.hid (FV_2.out.below B (Nat.le_refl _))
  clear B  HB2 FS1_2 FS2_2 FS3_2 FS4_2 FU_2 FV_2
  clear hv0 hv1
  go_wp2_with fail
  have B : Below w.heap.size w (w3.alloc (.cells #[.slice A4 2 c4, .slice A3 2 c3] 124)) := (HB3.out.alloc HB3.out.size _)
  have C : Below w3.heap.size w3 (w3.alloc (.cells #[.slice A4 2 c4, .slice A3 2 c3] 124)) := ((Below.refl w3.heap.size w3).alloc (Nat.le_refl _) _)
  have X0 : Bx (w3.alloc (.cells #[.slice A4 2 c4, .slice A3 2 c3] 124)) (w3.heap.size) #[.slice A4 2 c4, .slice A3 2 c3] 124 := by simpa using (Bx.new w3 #[.slice A4 2 c4, .slice A3 2 c3] 124)
  have FS1_4 := Lib.hid (FS1_3.out.below C (Nat.le_refl _))
  have FS2_4 := Lib.hid (FS2_3.out.below C (Nat.le_refl _))
  have FS3_4 := Lib.hid (FS3_3.out.below C (Nat.le_refl _))
  have FS4_4 := Lib.hid (FS4_3.out.below C (Nat.le_refl _))
  have FU_4 := Lib.hid (FU_3.out.below C (Nat.le_refl _))
  have FV_4 := Lib.hid (FV_3.out.below C (Nat.le_refl _))
  have HB4 := Lib.hid B
  have FX_4 := Lib.hid X0
  clear B C X0 HB3 FS1_3 FS2_3 FS3_3 FS4_3 FU_3 FV_3
  generalize (w3.alloc (.cells #[.slice A4 2 c4, .slice A3 2 c3] 124)) = w4 at *
  have RB4 := Lib.hid (below_drew0 w4)
  have QS4 := Lib.hid (show w4.cell? ⟨w.heap.size, 0, none⟩ = some (.slice A1 2 c1) ∧ w4.cell? ⟨w.heap.size, 1, none⟩ = some (.slice A2 2 c2) ∧ w4.cell? ⟨w3.heap.size, 0, none⟩ = some (.slice A4 2 c4) ∧ w4.cell? ⟨w3.heap.size, 1, none⟩ = some (.slice A3 2 c3) from ⟨FU_4.out.cell 0 (v := .slice A1 2 c1) rfl, FU_4.out.cell 1 (v := .slice A2 2 c2) rfl, FX_4.out.cell 0 (v := .slice A4 2 c4) rfl, FX_4.out.cell 1 (v := .slice A3 2 c3) rfl⟩)
  have QF4 := Lib.hid (show ∀ w', Below w4.heap.size w4 w' → w'.cell? ⟨w.heap.size, 0, none⟩ = some (.slice A1 2 c1) ∧ w'.cell? ⟨w.heap.size, 1, none⟩ = some (.slice A2 2 c2) ∧ w'.cell? ⟨w3.heap.size, 0, none⟩ = some (.slice A4 2 c4) ∧ w'.cell? ⟨w3.heap.size, 1, none⟩ = some (.slice A3 2 c3) from fun w' hb => ⟨(FU_4.out.below hb (Nat.le_refl _)).cell 0 (v := .slice A1 2 c1) rfl, (FU_4.out.below hb (Nat.le_refl _)).cell 1 (v := .slice A2 2 c2) rfl, (FX_4.out.below hb (Nat.le_refl _)).cell 0 (v := .slice A4 2 c4) rfl, (FX_4.out.below hb (Nat.le_refl _)).cell 1 (v := .slice A3 2 c3) rfl⟩)
  go_region_held3 (fun w' => w'.cell? ⟨w.heap.size, 0, none⟩ = some (.slice A1 2 c1) ∧ w'.cell? ⟨w.heap.size, 1, none⟩ = some (.slice A2 2 c2) ∧ w'.cell? ⟨w3.heap.size, 0, none⟩ = some (.slice A4 2 c4) ∧ w'.cell? ⟨w3.heap.size, 1, none⟩ = some (.slice A3 2 c3)) (first | with_reducible exact QF4.out _ RB7.out | with_reducible exact QF4.out _ RB6.out | with_reducible exact QF4.out _ RB5.out | with_reducible exact QS4.out | with_reducible exact QF4.out _ RB4.out) (first
      | (go_at_call 105; have := RB6; clear this; refine (diff_comb_Cross P1 P2 4 q1 q2 (x1 * y2) (y1 * x2) _ RM1_6.out RM2_6.out rfl).mono ?_; rintro e w7 ⟨⟨P3, q3, rfl, M3⟩, B⟩; have RB7 := Lib.hid (RB6.out.trans (B.mono RB6.out.size)); have RM1_7 := Lib.hid (RM1_6.out.below B (Nat.le_refl _)); have RM2_7 := Lib.hid (RM2_6.out.below B (Nat.le_refl _)); have RM3_7 := Lib.hid M3; clear B M3)
      | (go_at_call 127; have := RB5; clear this; refine (limb_Mul A2 A3 2 c2 2 c3 y1 x2 _ (FS2_4.out.below RB5.out (Nat.le_refl _)) (FS3_4.out.below RB5.out (Nat.le_refl _)) f2 f3 rfl rfl (by omega)).mono ?_; rintro e w6 ⟨P2, q2, rfl, M2, B⟩; have RB6 := Lib.hid (RB5.out.trans (B.mono RB5.out.size)); have RM1_6 := Lib.hid (RM1_5.out.below B (Nat.le_refl _)); have RM2_6 := Lib.hid (show Sl _ .u64 P2 4 q2 _ from M2); clear B M2)
      | (go_at_call 127; have := RB4; clear this; refine (limb_Mul A1 A4 2 c1 2 c4 x1 y2 _ (FS1_4.out.below RB4.out (Nat.le_refl _)) (FS4_4.out.below RB4.out (Nat.le_refl _)) f1 f4 rfl rfl (by omega)).mono ?_; rintro e w5 ⟨P1, q1, rfl, M1, B⟩; have RB5 := Lib.hid (RB4.out.trans (B.mono RB4.out.size)); have RM1_5 := Lib.hid (show Sl _ .u64 P1 4 q1 _ from M1); clear B M1))
  have FS1_7 := Lib.hid (FS1_4.out.below RB7.out (Nat.le_refl _))
  have FS2_7 := Lib.hid (FS2_4.out.below RB7.out (Nat.le_refl _))
  have FS3_7 := Lib.hid (FS3_4.out.below RB7.out (Nat.le_refl _))
  have FS4_7 := Lib.hid (FS4_4.out.below RB7.out (Nat.le_refl _))
  have FU_7 := Lib.hid (FU_4.out.below RB7.out (Nat.le_refl _))
  have FV_7 := Lib.hid (FV_4.out.below RB7.out (Nat.le_refl _))
  have FX_7 := Lib.hid (FX_4.out.below RB7.out (Nat.le_refl _))
  have HB7 := Lib.hid (HB4.out.trans (RB7.out.mono HB4.out.size))
  clear HB4 FS1_4 FS2_4 FS3_4 FS4_4 FU_4 FV_4 FX_4
  go_wp2_with fail
  go_ret
  exact ⟨⟨_, _, rfl, RM3_7.out⟩, HB7.out⟩

set_option maxHeartbeats 1000000 in
theorem diff_products_Dot (A1 A2 A3 A4 : Option Addr) (c1 c2 c3 c4 : Nat) (x1 y1 x2 y2 : Int) (w : World) (a1 : Sl w .u64 A1 2 c1 (lmb x1)) (a2 : Sl w .u64 A2 2 c2 (lmb y1)) (a3 : Sl w .u64 A3 2 c3 (lmb x2)) (a4 : Sl w .u64 A4 2 c4 (lmb y2)) (f1 : Fit 2 x1) (f2 : Fit 2 y1) (f3 : Fit 2 x2) (f4 : Fit 2 y2) :
    Calls Tryz.prog 103 #[.agg #[.slice A1 2 c1, .slice A2 2 c2], .agg #[.slice A3 2 c3, .slice A4 2 c4], .func (.func 176) #[] #[], .func (.func 177) #[] #[]] w fun e w' => (∃ A c, e = .returned (.slice A 4 c) ∧ Sl w' .u64 A 4 c (lmb (x1 * x2 + y1 * y2))) ∧ Below w.heap.size w w' := by
  have HB0 := Lib.hid (Below.refl w.heap.size w)
  have FS1 := Lib.hid a1
  have FS2 := Lib.hid a2
  have FS3 := Lib.hid a3
  have FS4 := Lib.hid a4
  clear a1 a2 a3 a4
  go_enter Tryz.func103, Tryz.ntmps103
  go_wp2_with fail
  have B : Below w.heap.size w (((w.alloc (.cells #[.slice A1 2 c1, .slice A2 2 c2] 124)).alloc (.cells #[.slice A3 2 c3, .slice A4 2 c4] 124)).alloc (.cells #[.slice A1 2 c1, .slice A2 2 c2, .slice A3 2 c3, .slice A4 2 c4] 124)) := (((HB0.out.alloc HB0.out.size _).alloc (HB0.out.alloc HB0.out.size _).size _).alloc ((HB0.out.alloc HB0.out.size _).alloc (HB0.out.alloc HB0.out.size _).size _).size _)
  have C : Below w.heap.size w (((w.alloc (.cells #[.slice A1 2 c1, .slice A2 2 c2] 124)).alloc (.cells #[.slice A3 2 c3, .slice A4 2 c4] 124)).alloc (.cells #[.slice A1 2 c1, .slice A2 2 c2, .slice A3 2 c3, .slice A4 2 c4] 124)) := ((((Below.refl w.heap.size w).alloc (Nat.le_refl _) _).alloc (by simp; try omega) _).alloc (by simp; try omega) _)
  have X0 : Bx (((w.alloc (.cells #[.slice A1 2 c1, .slice A2 2 c2] 124)).alloc (.cells #[.slice A3 2 c3, .slice A4 2 c4] 124)).alloc (.cells #[.slice A1 2 c1, .slice A2 2 c2, .slice A3 2 c3, .slice A4 2 c4] 124)) (w.heap.size) #[.slice A1 2 c1, .slice A2 2 c2] 124 := by simpa using (((Bx.new w #[.slice A1 2 c1, .slice A2 2 c2] 124).alloc _).alloc _)
  have X1 : Bx (((w.alloc (.cells #[.slice A1 2 c1, .slice A2 2 c2] 124)).alloc (.cells #[.slice A3 2 c3, .slice A4 2 c4] 124)).alloc (.cells #[.slice A1 2 c1, .slice A2 2 c2, .slice A3 2 c3, .slice A4 2 c4] 124)) (w.heap.size + 1) #[.slice A3 2 c3, .slice A4 2 c4] 124 := by simpa using ((Bx.new (w.alloc (.cells #[.slice A1 2 c1, .slice A2 2 c2] 124)) #[.slice A3 2 c3, .slice A4 2 c4] 124).alloc _)
  have X2 : Bx (((w.alloc (.cells #[.slice A1 2 c1, .slice A2 2 c2] 124)).alloc (.cells #[.slice A3 2 c3, .slice A4 2 c4] 124)).alloc (.cells #[.slice A1 2 c1, .slice A2 2 c2, .slice A3 2 c3, .slice A4 2 c4] 124)) (w.heap.size + 1 + 1) #[.slice A1 2 c1, .slice A2 2 c2, .slice A3 2 c3, .slice A4 2 c4] 124 := by simpa using (Bx.new ((w.alloc (.cells #[.slice A1 2 c1, .slice A2 2 c2] 124)).alloc (.cells #[.slice A3 2 c3, .slice A4 2 c4] 124)) #[.slice A1 2 c1, .slice A2 2 c2, .slice A3 2 c3, .slice A4 2 c4] 124)
  have FS1_1 := Lib.hid (FS1.out.below C (Nat.le_refl _))
  have FS2_1 := Lib.hid (FS2.out.below C (Nat.le_refl _))
  have FS3_1 := Lib.hid (FS3.out.below C (Nat.le_refl _))
  have FS4_1 := Lib.hid (FS4.out.below C (Nat.le_refl _))
  have HB1 := Lib.hid B
  have FU_1 := Lib.hid X0
  have FV_1 := Lib.hid X1
  have FL_1 := Lib.hid X2
  clear B C X0 X1 X2 HB0 FS1 FS2 FS3 FS4
  generalize (((w.alloc (.cells #[.slice A1 2 c1, .slice A2 2 c2] 124)).alloc (.cells #[.slice A3 2 c3, .slice A4 2 c4] 124)).alloc (.cells #[.slice A1 2 c1, .slice A2 2 c2, .slice A3 2 c3, .slice A4 2 c4] 124)) = w1 at *
  skip
  refine (diff_is2 _ A1 2 c1 A2 2 c2 A3 2 c3 A4 2 c4 _ (by decide) (by decide) (by decide) (by decide) (FL_1.out.cell 0 (v := .slice A1 2 c1) rfl) (FL_1.out.cell 1 (v := .slice A2 2 c2) rfl) (FL_1.out.cell 2 (v := .slice A3 2 c3) rfl) (FL_1.out.cell 3 (v := .slice A4 2 c4) rfl)).mono ?_
  rintro e w2 ⟨rfl, B⟩
  have HB2 := Lib.hid (HB1.out.trans (B.mono HB1.out.size))
  have FS1_2 := Lib.hid (FS1_1.out.below B (Nat.le_refl _))
  have FS2_2 := Lib.hid (FS2_1.out.below B (Nat.le_refl _))
  have FS3_2 := Lib.hid (FS3_1.out.below B (Nat.le_refl _))
  have FS4_2 := Lib.hid (FS4_1.out.below B (Nat.le_refl _))
  have FU_2 := Lib.hid (FU_1.out.below B (Nat.le_refl _))
  have FV_2 := Lib.hid (FV_1.out.below B (Nat.le_refl _))
  have FL_2 := Lib.hid (FL_1.out.below B (Nat.le_refl _))
  clear B  HB1 FS1_1 FS2_1 FS3_1 FS4_1 FU_1 FV_1 FL_1
  rw [show (vB 2 2 && vB 2 2) = true from rfl]
  have hv0 := FV_2.out.cell 0 (v := .slice A3 2 c3) rfl
  have hv1 := FV_2.out.cell 1 (v := .slice A4 2 c4) rfl
  go_wp2_with fail
  refine (diff_same _ _ _ _ _ _ _).mono ?_
  rintro e w3 ⟨rfl, B⟩
  have HB3 := Lib.hid (HB2.out.trans (B.mono HB2.out.size))
  have FS1_3 := Lib.hid (FS1_2.out.below B (Nat.le_refl _))
  have FS2_3 := Lib.hid (FS2_2.out.below B (Nat.le_refl _))
  have FS3_3 := Lib.hid (FS3_2.out.below B (Nat.le_refl _))
  have FS4_3 := Lib.hid (FS4_2.out.below B (Nat.le_refl _))
  have FU_3 := Lib.hid (FU_2.out.below B (Nat.le_refl _))
  have FV_3 := Lib.hid (FV_2.out.below B (Nat.le_refl _))
  clear B  HB2 FS1_2 FS2_2 FS3_2 FS4_2 FU_2 FV_2
  clear hv0 hv1
  go_wp2_with fail
  have B : Below w.heap.size w (w3.alloc (.cells #[.slice A3 2 c3, .slice A4 2 c4] 124)) := (HB3.out.alloc HB3.out.size _)
  have C : Below w3.heap.size w3 (w3.alloc (.cells #[.slice A3 2 c3, .slice A4 2 c4] 124)) := ((Below.refl w3.heap.size w3).alloc (Nat.le_refl _) _)
  have X0 : Bx (w3.alloc (.cells #[.slice A3 2 c3, .slice A4 2 c4] 124)) (w3.heap.size) #[.slice A3 2 c3, .slice A4 2 c4] 124 := by simpa using (Bx.new w3 #[.slice A3 2 c3, .slice A4 2 c4] 124)
  have FS1_4 := Lib.hid (FS1_3.out.below C (Nat.le_refl _))
  have FS2_4 := Lib.hid (FS2_3.out.below C (Nat.le_refl _))
  have FS3_4 := Lib.hid (FS3_3.out.below C (Nat.le_refl _))
  have FS4_4 := Lib.hid (FS4_3.out.below C (Nat.le_refl _))
  have FU_4 := Lib.hid (FU_3.out.below C (Nat.le_refl _))
  have FV_4 := Lib.hid (FV_3.out.below C (Nat.le_refl _))
  have HB4 := Lib.hid B
  have FX_4 := Lib.hid X0
  clear B C X0 HB3 FS1_3 FS2_3 FS3_3 FS4_3 FU_3 FV_3
  generalize (w3.alloc (.cells #[.slice A3 2 c3, .slice A4 2 c4] 124)) = w4 at *
  have RB4 := Lib.hid (below_drew0 w4)
  have QS4 := Lib.hid (show w4.cell? ⟨w.heap.size, 0, none⟩ = some (.slice A1 2 c1) ∧ w4.cell? ⟨w.heap.size, 1, none⟩ = some (.slice A2 2 c2) ∧ w4.cell? ⟨w3.heap.size, 0, none⟩ = some (.slice A3 2 c3) ∧ w4.cell? ⟨w3.heap.size, 1, none⟩ = some (.slice A4 2 c4) from ⟨FU_4.out.cell 0 (v := .slice A1 2 c1) rfl, FU_4.out.cell 1 (v := .slice A2 2 c2) rfl, FX_4.out.cell 0 (v := .slice A3 2 c3) rfl, FX_4.out.cell 1 (v := .slice A4 2 c4) rfl⟩)
  have QF4 := Lib.hid (show ∀ w', Below w4.heap.size w4 w' → w'.cell? ⟨w.heap.size, 0, none⟩ = some (.slice A1 2 c1) ∧ w'.cell? ⟨w.heap.size, 1, none⟩ = some (.slice A2 2 c2) ∧ w'.cell? ⟨w3.heap.size, 0, none⟩ = some (.slice A3 2 c3) ∧ w'.cell? ⟨w3.heap.size, 1, none⟩ = some (.slice A4 2 c4) from fun w' hb => ⟨(FU_4.out.below hb (Nat.le_refl _)).cell 0 (v := .slice A1 2 c1) rfl, (FU_4.out.below hb (Nat.le_refl _)).cell 1 (v := .slice A2 2 c2) rfl, (FX_4.out.below hb (Nat.le_refl _)).cell 0 (v := .slice A3 2 c3) rfl, (FX_4.out.below hb (Nat.le_refl _)).cell 1 (v := .slice A4 2 c4) rfl⟩)
  go_region_held3 (fun w' => w'.cell? ⟨w.heap.size, 0, none⟩ = some (.slice A1 2 c1) ∧ w'.cell? ⟨w.heap.size, 1, none⟩ = some (.slice A2 2 c2) ∧ w'.cell? ⟨w3.heap.size, 0, none⟩ = some (.slice A3 2 c3) ∧ w'.cell? ⟨w3.heap.size, 1, none⟩ = some (.slice A4 2 c4)) (first | with_reducible exact QF4.out _ RB7.out | with_reducible exact QF4.out _ RB6.out | with_reducible exact QF4.out _ RB5.out | with_reducible exact QS4.out | with_reducible exact QF4.out _ RB4.out) (first
      | (go_at_call 177; have := RB6; clear this; refine (diff_comb_Dot P1 P2 4 q1 q2 (x1 * x2) (y1 * y2) _ RM1_6.out RM2_6.out rfl).mono ?_; rintro e w7 ⟨⟨P3, q3, rfl, M3⟩, B⟩; have RB7 := Lib.hid (RB6.out.trans (B.mono RB6.out.size)); have RM1_7 := Lib.hid (RM1_6.out.below B (Nat.le_refl _)); have RM2_7 := Lib.hid (RM2_6.out.below B (Nat.le_refl _)); have RM3_7 := Lib.hid M3; clear B M3)
      | (go_at_call 127; have := RB5; clear this; refine (limb_Mul A2 A4 2 c2 2 c4 y1 y2 _ (FS2_4.out.below RB5.out (Nat.le_refl _)) (FS4_4.out.below RB5.out (Nat.le_refl _)) f2 f4 rfl rfl (by omega)).mono ?_; rintro e w6 ⟨P2, q2, rfl, M2, B⟩; have RB6 := Lib.hid (RB5.out.trans (B.mono RB5.out.size)); have RM1_6 := Lib.hid (RM1_5.out.below B (Nat.le_refl _)); have RM2_6 := Lib.hid (show Sl _ .u64 P2 4 q2 _ from M2); clear B M2)
      | (go_at_call 127; have := RB4; clear this; refine (limb_Mul A1 A3 2 c1 2 c3 x1 x2 _ (FS1_4.out.below RB4.out (Nat.le_refl _)) (FS3_4.out.below RB4.out (Nat.le_refl _)) f1 f3 rfl rfl (by omega)).mono ?_; rintro e w5 ⟨P1, q1, rfl, M1, B⟩; have RB5 := Lib.hid (RB4.out.trans (B.mono RB4.out.size)); have RM1_5 := Lib.hid (show Sl _ .u64 P1 4 q1 _ from M1); clear B M1))
  have FS1_7 := Lib.hid (FS1_4.out.below RB7.out (Nat.le_refl _))
  have FS2_7 := Lib.hid (FS2_4.out.below RB7.out (Nat.le_refl _))
  have FS3_7 := Lib.hid (FS3_4.out.below RB7.out (Nat.le_refl _))
  have FS4_7 := Lib.hid (FS4_4.out.below RB7.out (Nat.le_refl _))
  have FU_7 := Lib.hid (FU_4.out.below RB7.out (Nat.le_refl _))
  have FV_7 := Lib.hid (FV_4.out.below RB7.out (Nat.le_refl _))
  have FX_7 := Lib.hid (FX_4.out.below RB7.out (Nat.le_refl _))
  have HB7 := Lib.hid (HB4.out.trans (RB7.out.mono HB4.out.size))
  clear HB4 FS1_4 FS2_4 FS3_4 FS4_4 FU_4 FV_4 FX_4
  go_wp2_with fail
  go_ret
  exact ⟨⟨_, _, rfl, RM3_7.out⟩, HB7.out⟩

set_option maxHeartbeats 1000000 in
theorem diff_Cross (A1 A2 A3 A4 : Option Addr) (c1 c2 c3 c4 : Nat) (x1 y1 x2 y2 : Int) (w : World) (a1 : Sl w .u64 A1 2 c1 (lmb x1)) (a2 : Sl w .u64 A2 2 c2 (lmb y1)) (a3 : Sl w .u64 A3 2 c3 (lmb x2)) (a4 : Sl w .u64 A4 2 c4 (lmb y2)) (f1 : Fit 2 x1) (f2 : Fit 2 y1) (f3 : Fit 2 x2) (f4 : Fit 2 y2) :
    Calls Tryz.prog 75 #[.agg #[.slice A1 2 c1, .slice A2 2 c2], .agg #[.slice A3 2 c3, .slice A4 2 c4]] w fun e w' => (∃ A c, e = .returned (.slice A 4 c) ∧ Sl w' .u64 A 4 c (lmb (x1 * y2 - y1 * x2))) ∧ Below w.heap.size w w' := by
  have HB0 := Lib.hid (Below.refl w.heap.size w)
  have FS1 := Lib.hid a1
  have FS2 := Lib.hid a2
  have FS3 := Lib.hid a3
  have FS4 := Lib.hid a4
  clear a1 a2 a3 a4
  go_enter Tryz.func75, Tryz.ntmps75
  go_wp2_with fail
  refine (diff_products_Cross _ _ _ _ _ _ _ _ _ _ _ _ _ ((FS1.out.alloc _).alloc _) ((FS2.out.alloc _).alloc _) ((FS3.out.alloc _).alloc _) ((FS4.out.alloc _).alloc _) f1 f2 f3 f4).mono ?_
  rintro e w1 ⟨⟨A5, c5, rfl, S5⟩, B⟩
  have HB1 := Lib.hid (((HB0.out.alloc HB0.out.size _).alloc (HB0.out.alloc HB0.out.size _).size _).trans (B.mono ((HB0.out.alloc HB0.out.size _).alloc (HB0.out.alloc HB0.out.size _).size _).size))
  have FS1_1 := Lib.hid (((FS1.out.alloc _).alloc _).below B (Nat.le_refl _))
  have FS2_1 := Lib.hid (((FS2.out.alloc _).alloc _).below B (Nat.le_refl _))
  have FS3_1 := Lib.hid (((FS3.out.alloc _).alloc _).below B (Nat.le_refl _))
  have FS4_1 := Lib.hid (((FS4.out.alloc _).alloc _).below B (Nat.le_refl _))
  have FS5_1 := Lib.hid S5
  clear B S5 HB0 FS1 FS2 FS3 FS4
  go_wp2_with fail
  go_ret
  exact ⟨⟨_, _, rfl, FS5_1.out⟩, HB1.out⟩

set_option maxHeartbeats 1000000 in
theorem diff_Dot (A1 A2 A3 A4 : Option Addr) (c1 c2 c3 c4 : Nat) (x1 y1 x2 y2 : Int) (w : World) (a1 : Sl w .u64 A1 2 c1 (lmb x1)) (a2 : Sl w .u64 A2 2 c2 (lmb y1)) (a3 : Sl w .u64 A3 2 c3 (lmb x2)) (a4 : Sl w .u64 A4 2 c4 (lmb y2)) (f1 : Fit 2 x1) (f2 : Fit 2 y1) (f3 : Fit 2 x2) (f4 : Fit 2 y2) :
    Calls Tryz.prog 173 #[.agg #[.slice A1 2 c1, .slice A2 2 c2], .agg #[.slice A3 2 c3, .slice A4 2 c4]] w fun e w' => (∃ A c, e = .returned (.slice A 4 c) ∧ Sl w' .u64 A 4 c (lmb (x1 * x2 + y1 * y2))) ∧ Below w.heap.size w w' := by
  have HB0 := Lib.hid (Below.refl w.heap.size w)
  have FS1 := Lib.hid a1
  have FS2 := Lib.hid a2
  have FS3 := Lib.hid a3
  have FS4 := Lib.hid a4
  clear a1 a2 a3 a4
  go_enter Tryz.func173, Tryz.ntmps173
  go_wp2_with fail
  refine (diff_products_Dot _ _ _ _ _ _ _ _ _ _ _ _ _ ((FS1.out.alloc _).alloc _) ((FS2.out.alloc _).alloc _) ((FS3.out.alloc _).alloc _) ((FS4.out.alloc _).alloc _) f1 f2 f3 f4).mono ?_
  rintro e w1 ⟨⟨A5, c5, rfl, S5⟩, B⟩
  have HB1 := Lib.hid (((HB0.out.alloc HB0.out.size _).alloc (HB0.out.alloc HB0.out.size _).size _).trans (B.mono ((HB0.out.alloc HB0.out.size _).alloc (HB0.out.alloc HB0.out.size _).size _).size))
  have FS1_1 := Lib.hid (((FS1.out.alloc _).alloc _).below B (Nat.le_refl _))
  have FS2_1 := Lib.hid (((FS2.out.alloc _).alloc _).below B (Nat.le_refl _))
  have FS3_1 := Lib.hid (((FS3.out.alloc _).alloc _).below B (Nat.le_refl _))
  have FS4_1 := Lib.hid (((FS4.out.alloc _).alloc _).below B (Nat.le_refl _))
  have FS5_1 := Lib.hid S5
  clear B S5 HB0 FS1 FS2 FS3 FS4
  go_wp2_with fail
  go_ret
  exact ⟨⟨_, _, rfl, FS5_1.out⟩, HB1.out⟩

set_option maxHeartbeats 1000000 in
theorem diff_Norm (A1 A2 : Option Addr) (c1 c2 : Nat) (x1 y1 : Int) (w : World) (a1 : Sl w .u64 A1 2 c1 (lmb x1)) (a2 : Sl w .u64 A2 2 c2 (lmb y1)) (f1 : Fit 2 x1) (f2 : Fit 2 y1) :
    Calls Tryz.prog 169 #[.agg #[.slice A1 2 c1, .slice A2 2 c2]] w fun e w' => (∃ A c, e = .returned (.slice A 4 c) ∧ Sl w' .u64 A 4 c (lmb (x1 * x1 + y1 * y1))) ∧ Below w.heap.size w w' := by
  have HB0 := Lib.hid (Below.refl w.heap.size w)
  have FS1 := Lib.hid a1
  have FS2 := Lib.hid a2
  clear a1 a2
  go_enter Tryz.func169, Tryz.ntmps169
  go_wp2_with fail
  refine (diff_Dot _ _ _ _ _ _ _ _ _ _ _ _ _ (FS1.out.alloc _) (FS2.out.alloc _) (FS1.out.alloc _) (FS2.out.alloc _) f1 f2 f1 f2).mono ?_
  rintro e w1 ⟨⟨A5, c5, rfl, S5⟩, B⟩
  have HB1 := Lib.hid ((HB0.out.alloc HB0.out.size _).trans (B.mono (HB0.out.alloc HB0.out.size _).size))
  have FS1_1 := Lib.hid ((FS1.out.alloc _).below B (Nat.le_refl _))
  have FS2_1 := Lib.hid ((FS2.out.alloc _).below B (Nat.le_refl _))
  have FS5_1 := Lib.hid S5
  clear B S5 HB0 FS1 FS2
  go_wp2_with fail
  go_ret
  exact ⟨⟨_, _, rfl, FS5_1.out⟩, HB1.out⟩

set_option maxHeartbeats 1000000 in
theorem diff_products_no (A1 A2 A3 A4 : Option Addr) (n1 n2 n3 n4 c1 c2 c3 c4 : Nat) (F G : Value) (w : World) (m1 : n1 ≤ maxLen) (m2 : n2 ≤ maxLen) (m3 : n3 ≤ maxLen) (m4 : n4 ≤ maxLen) (h : (vB n1 n2 && vB n3 n4) = false) :
    Calls Tryz.prog 103 #[.agg #[.slice A1 n1 c1, .slice A2 n2 c2], .agg #[.slice A3 n3 c3, .slice A4 n4 c4], F, G] w fun e w' => e = .returned (.slice none 0 0) ∧ Below w.heap.size w w' := by
  have HB0 := Lib.hid (Below.refl w.heap.size w)
  have HH := Lib.hid h; clear h
  go_enter Tryz.func103, Tryz.ntmps103
  go_wp2_with fail
  have B : Below w.heap.size w (((w.alloc (.cells #[.slice A1 n1 c1, .slice A2 n2 c2] 124)).alloc (.cells #[.slice A3 n3 c3, .slice A4 n4 c4] 124)).alloc (.cells #[.slice A1 n1 c1, .slice A2 n2 c2, .slice A3 n3 c3, .slice A4 n4 c4] 124)) := (((HB0.out.alloc HB0.out.size _).alloc (HB0.out.alloc HB0.out.size _).size _).alloc ((HB0.out.alloc HB0.out.size _).alloc (HB0.out.alloc HB0.out.size _).size _).size _)
  have C : Below w.heap.size w (((w.alloc (.cells #[.slice A1 n1 c1, .slice A2 n2 c2] 124)).alloc (.cells #[.slice A3 n3 c3, .slice A4 n4 c4] 124)).alloc (.cells #[.slice A1 n1 c1, .slice A2 n2 c2, .slice A3 n3 c3, .slice A4 n4 c4] 124)) := ((((Below.refl w.heap.size w).alloc (Nat.le_refl _) _).alloc (by simp; try omega) _).alloc (by simp; try omega) _)
  have X0 : Bx (((w.alloc (.cells #[.slice A1 n1 c1, .slice A2 n2 c2] 124)).alloc (.cells #[.slice A3 n3 c3, .slice A4 n4 c4] 124)).alloc (.cells #[.slice A1 n1 c1, .slice A2 n2 c2, .slice A3 n3 c3, .slice A4 n4 c4] 124)) (w.heap.size) #[.slice A1 n1 c1, .slice A2 n2 c2] 124 := by simpa using (((Bx.new w #[.slice A1 n1 c1, .slice A2 n2 c2] 124).alloc _).alloc _)
  have X1 : Bx (((w.alloc (.cells #[.slice A1 n1 c1, .slice A2 n2 c2] 124)).alloc (.cells #[.slice A3 n3 c3, .slice A4 n4 c4] 124)).alloc (.cells #[.slice A1 n1 c1, .slice A2 n2 c2, .slice A3 n3 c3, .slice A4 n4 c4] 124)) (w.heap.size + 1) #[.slice A3 n3 c3, .slice A4 n4 c4] 124 := by simpa using ((Bx.new (w.alloc (.cells #[.slice A1 n1 c1, .slice A2 n2 c2] 124)) #[.slice A3 n3 c3, .slice A4 n4 c4] 124).alloc _)
  have X2 : Bx (((w.alloc (.cells #[.slice A1 n1 c1, .slice A2 n2 c2] 124)).alloc (.cells #[.slice A3 n3 c3, .slice A4 n4 c4] 124)).alloc (.cells #[.slice A1 n1 c1, .slice A2 n2 c2, .slice A3 n3 c3, .slice A4 n4 c4] 124)) (w.heap.size + 1 + 1) #[.slice A1 n1 c1, .slice A2 n2 c2, .slice A3 n3 c3, .slice A4 n4 c4] 124 := by simpa using (Bx.new ((w.alloc (.cells #[.slice A1 n1 c1, .slice A2 n2 c2] 124)).alloc (.cells #[.slice A3 n3 c3, .slice A4 n4 c4] 124)) #[.slice A1 n1 c1, .slice A2 n2 c2, .slice A3 n3 c3, .slice A4 n4 c4] 124)
  have HB1 := Lib.hid B
  have FU_1 := Lib.hid X0
  have FV_1 := Lib.hid X1
  have FL_1 := Lib.hid X2
  clear B C X0 X1 X2 HB0 
  generalize (((w.alloc (.cells #[.slice A1 n1 c1, .slice A2 n2 c2] 124)).alloc (.cells #[.slice A3 n3 c3, .slice A4 n4 c4] 124)).alloc (.cells #[.slice A1 n1 c1, .slice A2 n2 c2, .slice A3 n3 c3, .slice A4 n4 c4] 124)) = w1 at *
  skip
  refine (diff_is2 _ A1 n1 c1 A2 n2 c2 A3 n3 c3 A4 n4 c4 _ m1 m2 m3 m4 (FL_1.out.cell 0 (v := .slice A1 n1 c1) rfl) (FL_1.out.cell 1 (v := .slice A2 n2 c2) rfl) (FL_1.out.cell 2 (v := .slice A3 n3 c3) rfl) (FL_1.out.cell 3 (v := .slice A4 n4 c4) rfl)).mono ?_
  rintro e w2 ⟨rfl, B⟩
  have HB2 := Lib.hid (HB1.out.trans (B.mono HB1.out.size))
  have FU_2 := Lib.hid (FU_1.out.below B (Nat.le_refl _))
  have FV_2 := Lib.hid (FV_1.out.below B (Nat.le_refl _))
  have FL_2 := Lib.hid (FL_1.out.below B (Nat.le_refl _))
  clear B  HB1 FU_1 FV_1 FL_1
  rw [HH.out]
  go_wp2_with fail
  go_ret
  exact ⟨rfl, HB2.out⟩

set_option maxHeartbeats 1000000 in
theorem diff_Cross_no (A1 A2 A3 A4 : Option Addr) (n1 n2 n3 n4 c1 c2 c3 c4 : Nat) (w : World) (m1 : n1 ≤ maxLen) (m2 : n2 ≤ maxLen) (m3 : n3 ≤ maxLen) (m4 : n4 ≤ maxLen) (h : (vB n1 n2 && vB n3 n4) = false) :
    Calls Tryz.prog 75 #[.agg #[.slice A1 n1 c1, .slice A2 n2 c2], .agg #[.slice A3 n3 c3, .slice A4 n4 c4]] w fun e w' => e = .returned (.slice none 0 0) ∧ Below w.heap.size w w' := by
  have HB0 := Lib.hid (Below.refl w.heap.size w)
  go_enter Tryz.func75, Tryz.ntmps75
  go_wp2_with fail
  refine (diff_products_no _ _ _ _ _ _ _ _ _ _ _ _ _ _ _ m1 m2 m3 m4 h).mono ?_
  rintro e w1 ⟨rfl, B⟩
  have HB1 := Lib.hid (((HB0.out.alloc HB0.out.size _).alloc (HB0.out.alloc HB0.out.size _).size _).trans (B.mono ((HB0.out.alloc HB0.out.size _).alloc (HB0.out.alloc HB0.out.size _).size _).size))
  clear B  HB0
  go_wp2_with fail
  go_ret
  exact ⟨rfl, HB1.out⟩

set_option maxHeartbeats 1000000 in
theorem diff_Dot_no (A1 A2 A3 A4 : Option Addr) (n1 n2 n3 n4 c1 c2 c3 c4 : Nat) (w : World) (m1 : n1 ≤ maxLen) (m2 : n2 ≤ maxLen) (m3 : n3 ≤ maxLen) (m4 : n4 ≤ maxLen) (h : (vB n1 n2 && vB n3 n4) = false) :
    Calls Tryz.prog 173 #[.agg #[.slice A1 n1 c1, .slice A2 n2 c2], .agg #[.slice A3 n3 c3, .slice A4 n4 c4]] w fun e w' => e = .returned (.slice none 0 0) ∧ Below w.heap.size w w' := by
  have HB0 := Lib.hid (Below.refl w.heap.size w)
  go_enter Tryz.func173, Tryz.ntmps173
  go_wp2_with fail
  refine (diff_products_no _ _ _ _ _ _ _ _ _ _ _ _ _ _ _ m1 m2 m3 m4 h).mono ?_
  rintro e w1 ⟨rfl, B⟩
  have HB1 := Lib.hid (((HB0.out.alloc HB0.out.size _).alloc (HB0.out.alloc HB0.out.size _).size _).trans (B.mono ((HB0.out.alloc HB0.out.size _).alloc (HB0.out.alloc HB0.out.size _).size _).size))
  clear B  HB0
  go_wp2_with fail
  go_ret
  exact ⟨rfl, HB1.out⟩

set_option maxHeartbeats 1000000 in
theorem diff_Norm_no (A1 A2 : Option Addr) (n1 n2 c1 c2 : Nat) (w : World) (m1 : n1 ≤ maxLen) (m2 : n2 ≤ maxLen) (h : vB n1 n2 = false) :
    Calls Tryz.prog 169 #[.agg #[.slice A1 n1 c1, .slice A2 n2 c2]] w fun e w' => e = .returned (.slice none 0 0) ∧ Below w.heap.size w w' := by
  have HB0 := Lib.hid (Below.refl w.heap.size w)
  go_enter Tryz.func169, Tryz.ntmps169
  go_wp2_with fail
  refine (diff_Dot_no _ _ _ _ _ _ _ _ _ _ _ _ _ m1 m2 m1 m2 (by rw [h]; rfl)).mono ?_
  rintro e w1 ⟨rfl, B⟩
  have HB1 := Lib.hid ((HB0.out.alloc HB0.out.size _).trans (B.mono (HB0.out.alloc HB0.out.size _).size))
  clear B  HB0
  go_wp2_with fail
  go_ret
  exact ⟨rfl, HB1.out⟩

end Go.Proofs.YtjdiilkljgljkaaGreatDoor
namespace Go.Proofs.YtjdiilkljgljkaaGreatDoor
set_option linter.unusedVariables false
set_option linter.unusedSimpArgs false
open Go.RowKit Wd

/-- the union of the first k words -/
def uni (f : Nat → Int) : Nat → Int
  | 0 => 0
  | k + 1 => bits .or .u64 (uni f k) (f k)
theorem or_zero_w {a b : Int} (ha : IsW a) (hb : IsW b) : bits .or .u64 a b = 0 ↔ a = 0 ∧ b = 0 := by
  unfold IsW at *
  rw [u64_or a b ha.1 ha.2 hb.1 hb.2]
  have := Nat.or_eq_zero_iff (n := a.toNat) (m := b.toNat)
  omega
theorem uni_w (f : Nat → Int) : ∀ n, (∀ i, i < n → IsW (f i)) → IsW (uni f n) ∧ (uni f n = 0 ↔ ∀ i, i < n → f i = 0)
  | 0, _ => ⟨by unfold IsW uni; omega, by simp [uni]⟩
  | n + 1, h => by
    obtain ⟨h1, h2⟩ := uni_w f n (fun i hi => h i (by omega))
    have hn := h n (by omega)
    refine ⟨or_w h1 hn, ?_⟩
    unfold uni
    rw [or_zero_w h1 hn, h2]
    constructor
    · intro ⟨h3, h4⟩ i hi
      by_cases hin : i < n
      · exact h3 i hin
      · rw [show i = n from by omega]; exact h4
    · intro h3
      exact ⟨fun i hi => h3 i (by omega), h3 n (by omega)⟩

theorem sgn_of {n : Nat} {x : Int} (h : Fit n x) : sgnM (decide (x < 0)) (decide (uni (lmb x) n = 0)) = sg x := by
  unfold sg
  have hu := (uni_w (lmb x) n (fun i _ => isW_lmb x i)).2
  have hz : uni (lmb x) n = 0 ↔ x = 0 := by
    rw [hu]
    exact ⟨fun h0 => zero_of_lmb h h0, fun h0 i _ => by rw [h0, lmb_zero]⟩
  have e : decide (uni (lmb x) n = 0) = decide (x = 0) := decide_eq_decide.2 hz
  rw [e]
  unfold sgnM
  rcases (by omega : x < 0 ∨ x = 0 ∨ 0 < x) with h1 | h1 | h1
  · simp [h1, Int.sign_eq_neg_one_of_neg h1]
  · subst h1; simp
  · rw [Int.sign_eq_one_of_pos h1]; simp; omega

theorem limb_Sign (A : Option Addr) (n c : Nat) (x : Int) (w : World) (ha : Sl w .u64 A n c (lmb x)) (hx : Fit n x) (hn : isN n = true) (hT : TabM w) :
    Calls Tryz.prog 49 #[.slice A n c] w fun e w' => e = .returned (.int .i64 (sg x)) ∧ Below w.heap.size w w' := by
  have hn' := isN_true hn
  have hmax := ha.max; have hcap := ha.cap
  obtain ⟨b, off, rfl, hlt, hc⟩ := ha.at_ (by omega)
  have hs := sgn_of hx
  have hu := uni_w (lmb x) n (fun i _ => isW_lmb x i)
  have htop : decide (9223372036854775808 ≤ lmb x (n - 1)) = decide (x < 0) := by
    obtain ⟨k, rfl⟩ : ∃ k, n = k + 1 := ⟨n - 1, by omega⟩
    rw [Nat.add_sub_cancel, decide_eq_decide.2 (top_neg hx)]
  have HN := Lib.hid hn; have HC := Lib.hid hc; have HS := Lib.hid hs; have HU := Lib.hid hu.1; have HT := Lib.hid hT; have HP := Lib.hid htop
  have hb0 : Below w.heap.size w (w.alloc (.cells #[.slice (some ⟨b, off, none⟩) n c] 93)) := (Below.refl w.heap.size w).alloc (Nat.le_refl _) _
  have HB0 := Lib.hid hb0
  clear hn hc hs hu hT ha hx htop hb0
  go_enter Tryz.func49, Tryz.ntmps49
  go_wp2_with fail
  refine (limb_is1 _ (some ⟨b, off, none⟩) n c (by omega) _ (by simp [go_sem])).mono ?_
  rintro e w1 ⟨rfl, rfl⟩
  rw [HN.out]
  go_wp2_with fail
  obtain ⟨w1, hw1⟩ : ∃ w1, w1 = w.alloc (.cells #[.slice (some ⟨b, off, none⟩) n c] 93) := ⟨_, rfl⟩
  rw [← hw1] at HB0 ⊢
  clear hw1
  go_loop [3, 12] (fun u i => ∃ k : Nat, k ≤ n ∧ i = .int .i64 k ∧ u = .int .u64 (uni (lmb x) k)) (fun _ i => n - (intOf i).toNat)
  case atStart => exact ⟨0, Nat.zero_le _, rfl, rfl⟩
  case round =>
    obtain ⟨k, hk, rfl, rfl⟩ := hrel
    by_cases hlt2 : k < n
    · have c1 : w1.cell? ⟨b, off + k, none⟩ = some (.int .u64 (lmb x k)) := (HB0.out.cell (p := ⟨b, off + k, none⟩) hlt).trans (HC.out k hlt2)
      go_wp2_with fail
      go_round
      case rel => exact ⟨k + 1, by omega, by go_num, rfl⟩
      case measure => simp [intOf]; omega
    · obtain rfl : k = n := by omega
      have c1 : w1.cell? ⟨b, off + (k - 1), none⟩ = some (.int .u64 (lmb x (k - 1))) := (HB0.out.cell (p := ⟨b, off + (k - 1), none⟩) hlt).trans (HC.out (k - 1) (by omega))
      go_wp2_with fail
      refine (word_Fill _ (isW_lmb _ _) _).mono ?_
      rintro e w2 ⟨rfl, rfl⟩
      rw [HP.out]
      go_wp2_with fail
      refine (mask_Zero _ HU.out _).mono ?_
      rintro e w2 ⟨rfl, rfl⟩
      go_wp2_with fail
      refine (mask_Sign _ _ _ (HT.out.below HB0.out (Nat.le_refl _))).mono ?_
      rintro e w2 ⟨rfl, nq, rfl⟩
      rw [HS.out]
      go_wp2_with fail
      go_ret
      exact ⟨rfl, HB0.out.trans ⟨rfl, rfl, rfl, Nat.le_refl _, fun _ _ => rfl⟩⟩
theorem limb_Sign_no (A : Option Addr) (n c : Nat) (f : Nat → Int) (w : World) (ha : Sl w .u64 A n c f) (hn : isN n = false) :
    Calls Tryz.prog 49 #[.slice A n c] w fun e w' => e = .returned (.int .i64 0) ∧ Below w.heap.size w w' := by
  have hmax := ha.max; have hcap := ha.cap
  have HN := Lib.hid hn
  clear hn ha
  go_enter Tryz.func49, Tryz.ntmps49
  go_wp2_with fail
  refine (limb_is1 _ A n c (by omega) _ (by simp [go_sem])).mono ?_
  rintro e w1 ⟨rfl, rfl⟩
  rw [HN.out]
  go_wp2_with fail
  go_ret
  exact ⟨rfl, (Below.refl w.heap.size w).alloc (Nat.le_refl _) _⟩


/-- limb.Mul where its arguments are no integers, or too many limbs would come out -/
theorem limb_Mul_no (A A' : Option Addr) (n c m c' : Nat) (f g : Nat → Int) (w : World) (ha : Sl w .u64 A n c f) (hb : Sl w .u64 A' m c' g) (hN : n ≤ 1000) (hM : m ≤ 1000) (hn : (isN n && isN m) = false ∨ 8 < n + m) :
    Calls Tryz.prog 127 #[.slice A n c, .slice A' m c'] w fun e w' => e = .returned (.slice none 0 0) ∧ Below w.heap.size w w' := by
  have hmax := ha.max; have hmax' := hb.max; have hcap := ha.cap; have hcap' := hb.cap
  have HB := Lib.hid ((Below.refl w.heap.size w).alloc (Nat.le_refl _) (.cells #[.slice A n c, .slice A' m c'] 93)); clear ha hb
  cases hi : (isN n && isN m)
  · have HI := Lib.hid hi; clear hi hn
    go_enter Tryz.func127, Tryz.ntmps127
    go_wp2_with fail
    refine (limb_is2 _ A A' n c m c' (by omega) (by omega) _ (by simp [go_sem]) (by simp [go_sem])).mono ?_
    rintro e w1 ⟨rfl, rfl⟩
    rw [HI.out]
    go_wp2_with fail
    go_ret
    exact ⟨rfl, HB.out⟩
  · have hne : 8 < (n : Int) + (m : Int) := by
      have : 8 < n + m := by rcases hn with h | h; (rw [hi] at h; cases h); exact h
      omega
    have HI := Lib.hid hi; clear hi hn
    go_enter Tryz.func127, Tryz.ntmps127
    go_wp2_with fail
    refine (limb_is2 _ A A' n c m c' (by omega) (by omega) _ (by simp [go_sem]) (by simp [go_sem])).mono ?_
    rintro e w1 ⟨rfl, rfl⟩
    rw [HI.out]
    go_wp2_with fail
    go_ret
    exact ⟨rfl, HB.out⟩
end Go.Proofs.YtjdiilkljgljkaaGreatDoor
namespace Go.Proofs.YtjdiilkljgljkaaGreatDoor
set_option linter.unusedVariables false
set_option linter.unusedSimpArgs false
open Go.RowKit

theorem info_int : (Tryz.prog.info? 3).map (fun i => (i.zero, i.size, i.bytes)) = some (some (.int .i64 0), 1, 8) := by kernel_rfl
theorem dd_add_step (x y : Int) (i : Nat) : (Dd.lmb x i + Dd.lmb y i + Dd.car x y i) % 65536 = Dd.lmb (x + y) i ∧ (Dd.lmb x i + Dd.lmb y i + Dd.car x y i) / 65536 = Dd.car x y (i + 1) := by
  have h := Dd.add_step x y i
  have hc := Dd.car_le x y i
  rw [show Dd.car x y i % 2 = Dd.car x y i from by omega] at h
  exact h
theorem car_end {n m : Nat} {p q : Int} (hp : Dd.Fits n p) (hq : Dd.Fits m q) {k : Nat} (hk : max n m < k) : Dd.car p q k = 0 := by
  have h1 := Dd.fits_mono hp (show n ≤ max n m by omega)
  have h2 := Dd.fits_mono hq (show m ≤ max n m by omega)
  have h3 : Dd.Fits (max n m + 1) (p + q) := by unfold Dd.Fits at *; rw [Dd.S_succ]; omega
  have h4 := Dd.fits_mono h3 (show max n m + 1 ≤ k by omega)
  have h5 := Dd.fits_mono h1 (show max n m ≤ k by omega)
  have h6 := Dd.fits_mono h2 (show max n m ≤ k by omega)
  unfold Dd.car Dd.qt
  rw [Int.ediv_eq_zero_of_lt h4.1 h4.2, Int.ediv_eq_zero_of_lt h5.1 h5.2, Int.ediv_eq_zero_of_lt h6.1 h6.2]; rfl
theorem fits_sum {n m : Nat} {p q : Int} (hp : Dd.Fits n p) (hq : Dd.Fits m q) {k : Nat} (hn : n ≤ k) (hm : m ≤ k) (hc : Dd.car p q k = 0) : Dd.Fits k (p + q) := by
  have h5 := Dd.fits_mono hp hn
  have h6 := Dd.fits_mono hq hm
  have hS := Dd.S_pos k
  unfold Dd.car Dd.qt at hc
  rw [Int.ediv_eq_zero_of_lt h5.1 h5.2, Int.ediv_eq_zero_of_lt h6.1 h6.2] at hc
  unfold Dd.Fits at *
  have := Int.lt_ediv_add_one_mul_self (p + q) hS
  rw [show (p + q) / Dd.S k = 0 from by omega] at this
  omega

set_option maxHeartbeats 1000000 in
theorem ref3_addDigits (A A' : Option Addr) (n c m c' : Nat) (p q : Int) (w : World) (ha : Sl w .i64 A n c (Dd.lmb p)) (hp : Dd.Fits n p) (hb : Sl w .i64 A' m c' (Dd.lmb q)) (hq : Dd.Fits m q) (hn : n ≤ 100000) (hm : m ≤ 100000) :
    Calls Tryz.prog 60 #[.slice A n c, .slice A' m c'] w fun e w' => (∃ A2 k c2, e = .returned (.slice A2 k c2) ∧ k ≤ max n m + 1 ∧ Sl w' .i64 A2 k c2 (Dd.lmb (p + q)) ∧ Dd.Fits k (p + q) ∧ Ty w' A2) ∧ Below w.heap.size w w' := by
  obtain ⟨i0, hi0, hz0, hz1, hz2⟩ := info_parts info_int
  have HA := Lib.hid ha; have HP := Lib.hid hp; have HB := Lib.hid hb; have HQ := Lib.hid hq
  clear ha hp hb hq
  go_enter Tryz.func60, Tryz.ntmps60
  go_wp2_with fail
  go_loopw [5, 6, 7] (fun v cr i wr => ∃ k : Nat, k ≤ max n m + 1 ∧ i = .int .i64 k ∧ cr = .int .i64 (Dd.car p q k) ∧ wr.ownsRow w.heap.size 3 1 v k (row .i64 (Dd.lmb (p + q)) k) ∧ Below w.heap.size w wr)
    (fun _ _ i _ => max n m + 1 - (intOf i).toNat)
  case atStart => exact ⟨0, Nat.zero_le _, rfl, by rw [Dd.car_zero], World.ownsRow_nil _ _ _ _, Below.refl _ _⟩
  case round =>
    obtain ⟨k, hk, rfl, rfl, hown, hbr⟩ := hrel
    have hcb := Dd.car_le p q k
    have hce : max n m < k → Dd.car p q k = 0 := fun h => car_end HP.out HQ.out h
    by_cases hgo : k < n ∨ k < m ∨ 0 < Dd.car p q k
    · have hkb : k ≤ max n m := by
        rcases (by omega : k ≤ max n m ∨ max n m < k) with h | h
        · exact h
        · have := hce h; omega
      have hst := dd_add_step p q k
      have r1 := Dd.lmb_range p k; have r2 := Dd.lmb_range q k
      have ha' := HA.out.below hbr (Nat.le_refl _); have hb' := HB.out.below hbr (Nat.le_refl _)
      have HA' := Lib.hid ha'; have HB' := Lib.hid hb'; have HST := Lib.hid hst
      have HOW := Lib.hid hown; have HBR := Lib.hid hbr
      clear hown hbr ha' hb' hst hce
      rcases (by omega : k < n ∨ (¬ k < n ∧ k < m) ∨ (¬ k < n ∧ ¬ k < m ∧ 0 < Dd.car p q k)) with h | h | h
      all_goals
        clear hgo
        go_wp2_with fail
        refine (ref3_digit A n c p k _ HA'.out HP.out (by omega)).mono ?_
        rintro e w1 ⟨rfl, rfl⟩
        go_wp2_with fail
        refine (ref3_digit A' m c' q k _ HB'.out HQ.out (by omega)).mono ?_
        rintro e w1 ⟨rfl, rfl⟩
        go_wp2_with (at_builtin; refine wpList_append_own _ rfl _ _ 39 rfl w.heap.size 3 i0 (.int .i64 0) 1 8 Tryz.underlying39 hi0 hz0 hz1 hz2 rfl (by decide) _ _ _ rfl (HOW.out.alloc _) ⟨wr.heap.size, 0, none⟩ 1 1 [.int .i64 ((Dd.lmb p k + Dd.lmb q k + Dd.car p q k) % 65536)] rfl rfl (cells_one_new _ _ _) (one_oneCell _ _) (by unfold maxLen; omega) (by omega) (by have := HBR.out.size; simp; omega) ?_)
        intro v' w2 hown2 hgrow _
        have hb3 : Below w.heap.size w w2 := (HBR.out.alloc HBR.out.size _).grown hgrow (by have := HBR.out.size; simp; omega) (own_block_le HOW.out)
        have hown3 := own_push hown2 HST.out.1
        have H3 := Lib.hid hown3; have B3 := Lib.hid hb3
        clear hown2 hgrow hb3 hown3
        go_wp2_with fail
        go_roundw
        case rel => exact ⟨k + 1, by omega, by go_num, by rw [← HST.out.2], H3.out, B3.out⟩
        case measure => simp [intOf]; omega
    · have hc0 : Dd.car p q k = 0 := by omega
      have hf := fits_sum HP.out HQ.out (k := k) (by omega) (by omega) hc0
      have h1 : ¬ k < n := by omega
      have h2 : ¬ k < m := by omega
      have h3 : ¬ 0 < Dd.car p q k := by omega
      obtain ⟨A2, c2, rfl, hsl⟩ := Sl.of_own hown
      have HTY := Lib.hid (Ty.of_own hown); have HF := Lib.hid hf; have HS := Lib.hid hsl; have HBR := Lib.hid hbr
      clear hown hbr hsl hf hc0 hce hgo hcb
      go_wp2_with fail
      go_ret
      exact ⟨⟨A2, k, c2, rfl, hk, HS.out, HF.out, HTY.out⟩, HBR.out⟩

theorem calls_flip3 {P : Program} {f : FuncId} {args : Array Value} {w : World} {v : Value} (h : Calls P f args w fun e w' => e = .returned v ∧ w = w') : Calls P f args w fun e w' => e = .returned v ∧ w' = w :=
  h.mono fun _ _ ⟨he, hw⟩ => ⟨he, hw.symm⟩
theorem sl_drewN {w : World} {k : IntKind} {A : Option Addr} {n c : Nat} {f : Nat → Int} (h : Sl w k A n c f) (m : Nat) : Sl (w.drewN m) k A n c f :=
  h.below (⟨rfl, rfl, rfl, Nat.le_refl _, fun _ _ => rfl⟩ : Below w.heap.size w (w.drewN m)) (Nat.le_refl _)
theorem own_drewN {w : World} {base size n : Nat} {e : TypeId} {v : Value} {xs : List Value} (h : w.ownsRow base e size v n xs) (m : Nat) : (w.drewN m).ownsRow base e size v n xs := h
theorem dd_sub_step (x y : Int) (i : Nat) : (Dd.lmb x i - Dd.lmb y i - Dd.brw x y i < 0 → Dd.lmb x i - Dd.lmb y i - Dd.brw x y i + 65536 = Dd.lmb (x - y) i ∧ Dd.brw x y (i + 1) = 1) ∧
    (¬ Dd.lmb x i - Dd.lmb y i - Dd.brw x y i < 0 → Dd.lmb x i - Dd.lmb y i - Dd.brw x y i = Dd.lmb (x - y) i ∧ Dd.brw x y (i + 1) = 0) := by
  have h := Dd.sub_step x y i
  have hc := Dd.brw_le x y i
  have r1 := Dd.lmb_range x i; have r2 := Dd.lmb_range y i
  rw [show Dd.brw x y i % 2 = Dd.brw x y i from by omega] at h
  rw [← h.1, ← h.2]
  unfold Dd.lo Dd.bor
  constructor
  · intro hs
    rw [if_pos (by omega)]
    omega
  · intro hs
    rw [if_neg (by omega)]
    omega

set_option maxHeartbeats 1000000 in
theorem ref3_subDigits (A A' : Option Addr) (n c m c' : Nat) (p q : Int) (w : World) (ha : Sl w .i64 A n c (Dd.lmb p)) (hp : Dd.Fits n p) (hb : Sl w .i64 A' m c' (Dd.lmb q)) (hq : Dd.Fits m q) (hn : n ≤ 100000) (hm : m ≤ 100000) (hle : q ≤ p) :
    Calls Tryz.prog 62 #[.slice A n c, .slice A' m c'] w fun e w' => (∃ A2 c2, e = .returned (.slice A2 n c2) ∧ Sl w' .i64 A2 n c2 (Dd.lmb (p - q)) ∧ Dd.Fits n (p - q) ∧ Ty w' A2) ∧ Below w.heap.size w w' := by
  obtain ⟨i0, hi0, hz0, hz1, hz2⟩ := info_parts info_int
  have hmax := ha.max; have hcap := ha.cap; unfold maxLen at hmax
  have hfin : Dd.Fits n (p - q) := by unfold Dd.Fits at *; omega
  have HA := Lib.hid ha; have HP := Lib.hid hp; have HB := Lib.hid hb; have HQ := Lib.hid hq; have HF := Lib.hid hfin
  clear ha hp hb hq hfin hle
  go_enter Tryz.func62, Tryz.ntmps62
  go_wp2_with fail
  go_loopw [5, 6, 7] (fun v br i wr => ∃ k : Nat, k ≤ n ∧ i = .int .i64 k ∧ br = .int .i64 (Dd.brw p q k) ∧ wr.ownsRow w.heap.size 3 1 v k (row .i64 (Dd.lmb (p - q)) k) ∧ Below w.heap.size w wr)
    (fun _ _ i _ => n - (intOf i).toNat)
  case atStart => exact ⟨0, Nat.zero_le _, rfl, by rw [Dd.brw_zero], World.ownsRow_nil _ _ _ _, Below.refl _ _⟩
  case round =>
    obtain ⟨k, hk, rfl, rfl, hown, hbr⟩ := hrel
    have hcb := Dd.brw_le p q k
    by_cases hlt : k < n
    · have hst := dd_sub_step p q k
      have r1 := Dd.lmb_range p k; have r2 := Dd.lmb_range q k
      have ha' := HA.out.below hbr (Nat.le_refl _); have hb' := HB.out.below hbr (Nat.le_refl _)
      obtain ⟨b, off, rfl, hblt, hc⟩ := ha'.at_ (by omega)
      have c1 := hc k hlt
      have HB' := Lib.hid hb'; have HST := Lib.hid hst
      have HOW := Lib.hid hown; have HBR := Lib.hid hbr
      clear hown hbr ha' hb' hst hc
      go_wp2_with fail
      go_quiet ((go_at_call 94; exact Calls.quiet_of_same (calls_flip3 (ref3_digit A' m c' q k _ (sl_drewN HB'.out _) HQ.out (by omega)))))
      obtain ⟨w5, hw5⟩ : ∃ w5, w5 = wr.drewN nq := ⟨_, rfl⟩
      rw [← hw5]
      have how5 := own_drewN HOW.out nq
      rw [← hw5] at how5
      have hbr5 : Below w.heap.size w w5 := by rw [hw5]; exact ⟨HBR.out.os, HBR.out.tape, HBR.out.output, HBR.out.size, HBR.out.block⟩
      have HOW5 := Lib.hid how5; have HBR5 := Lib.hid hbr5
      clear hw5 how5 hbr5 c1 HBR HOW HB'
      by_cases hneg : Dd.lmb p k - Dd.lmb q k - Dd.brw p q k < 0
      · obtain ⟨e1, e2⟩ := HST.out.1 (by omega)
        have E1 := Lib.hid e1; have E2 := Lib.hid e2; clear e1 e2
        go_wp2_with (at_builtin; refine wpList_append_own _ rfl _ _ 39 rfl w.heap.size 3 i0 (.int .i64 0) 1 8 Tryz.underlying39 hi0 hz0 hz1 hz2 rfl (by decide) _ _ _ rfl (HOW5.out.alloc _) ⟨w5.heap.size, 0, none⟩ 1 1 [.int .i64 (Dd.lmb p k - Dd.lmb q k - Dd.brw p q k + 65536)] rfl rfl (cells_one_new _ _ _) (one_oneCell _ _) (by unfold maxLen; omega) (by omega) (by have := HBR5.out.size; simp; omega) ?_)
        intro v' w2 hown2 hgrow _
        have hb3 : Below w.heap.size w w2 := (HBR5.out.alloc HBR5.out.size _).grown hgrow (by have := HBR5.out.size; simp; omega) (own_block_le HOW5.out)
        have H3 := Lib.hid (own_push hown2 E1.out); have B3 := Lib.hid hb3
        clear hown2 hgrow hb3
        go_wp2_with fail
        go_roundw
        case rel => exact ⟨k + 1, by omega, by go_num, by rw [E2.out], H3.out, B3.out⟩
        case measure => simp [intOf]; omega
      · obtain ⟨e1, e2⟩ := HST.out.2 (by omega)
        have E1 := Lib.hid e1; have E2 := Lib.hid e2; clear e1 e2
        go_wp2_with (at_builtin; refine wpList_append_own _ rfl _ _ 39 rfl w.heap.size 3 i0 (.int .i64 0) 1 8 Tryz.underlying39 hi0 hz0 hz1 hz2 rfl (by decide) _ _ _ rfl (HOW5.out.alloc _) ⟨w5.heap.size, 0, none⟩ 1 1 [.int .i64 (Dd.lmb p k - Dd.lmb q k - Dd.brw p q k)] rfl rfl (cells_one_new _ _ _) (one_oneCell _ _) (by unfold maxLen; omega) (by omega) (by have := HBR5.out.size; simp; omega) ?_)
        intro v' w2 hown2 hgrow _
        have hb3 : Below w.heap.size w w2 := (HBR5.out.alloc HBR5.out.size _).grown hgrow (by have := HBR5.out.size; simp; omega) (own_block_le HOW5.out)
        have H3 := Lib.hid (own_push hown2 E1.out); have B3 := Lib.hid hb3
        clear hown2 hgrow hb3
        go_wp2_with fail
        go_roundw
        case rel => exact ⟨k + 1, by omega, by go_num, by rw [E2.out], H3.out, B3.out⟩
        case measure => simp [intOf]; omega
    · obtain rfl : k = n := by omega
      obtain ⟨A2, c2, rfl, hsl⟩ := Sl.of_own hown
      have HTY := Lib.hid (Ty.of_own hown); have HS := Lib.hid hsl; have HBR := Lib.hid hbr
      clear hown hbr hsl hcb
      go_wp2_with fail
      go_ret
      exact ⟨⟨A2, c2, rfl, HS.out, HF.out, HTY.out⟩, HBR.out⟩
end Go.Proofs.YtjdiilkljgljkaaGreatDoor
