/- Contracts of the helpers of layer 3's laws: long of two slices, binary. -/
import Derived.Test.YteadkjbdbljbfaaDoorLaw3
import Derived.Test.YteadkjbdbljbfaaDoorRef3e
import Derived.Deep.Cut
namespace Go.Proofs.YteadkjbdbljbfaaDoor
set_option linter.unusedVariables false
set_option linter.unusedSimpArgs false
open Go.RowKit Wd

theorem _root_.Go.Proofs.YteadkjbdbljbfaaDoor.TabM.alloc {w : World} (h : TabM w) (o : Obj) : TabM (w.alloc o) := h.below ((Below.refl w.heap.size w).alloc (Nat.le_refl _) o) (Nat.le_refl _)
theorem _root_.Go.Proofs.YteadkjbdbljbfaaDoor.Nm.alloc {w : World} {A : Option Addr} {n c : Nat} {x : Int} (h : Nm w A n c x) (o : Obj) : Nm (w.alloc o) A n c x := h.below ((Below.refl w.heap.size w).alloc (Nat.le_refl _) o) (Nat.le_refl _)
theorem law_long2 (bb : Nat) (A A' : Option Addr) (n c m c' : Nat) (hn : n ≤ maxLen) (hm : m ≤ maxLen) (w : World) (h0 : w.cell? ⟨bb, 0, none⟩ = some (.slice A n c)) (h1 : w.cell? ⟨bb, 1, none⟩ = some (.slice A' m c')) :
    Calls Tryd.prog 10 #[.slice (some ⟨bb, 0, none⟩) 2 2] w fun e w' => e = .returned (.bool (lng n || lng m)) ∧ w = w' := by
  unfold maxLen at hn hm
  by_cases h : 50 < n
  · rw [show (lng n || lng m) = true from by simp [lng, h]]
    have hd : decide (50 < (n : Int)) = true := by simp; omega
    go_enter Tryd.func10, Tryd.ntmps10
    go_wp2_with fail
    go_loop [7] (fun i => i = .int .i64 0) (fun i => 1 - (intOf i).toNat)
    case atStart => rfl
    case round =>
      subst hrel
      go_wp2_with fail
      go_ret
      exact ⟨rfl, rfl⟩
  · have hd : decide (50 < (n : Int)) = false := by simp; omega
    by_cases h' : 50 < m
    · rw [show (lng n || lng m) = true from by simp [lng, h']]
      have hd' : decide (50 < (m : Int)) = true := by simp; omega
      go_enter Tryd.func10, Tryd.ntmps10
      go_wp2_with fail
      go_loop [7] (fun i => i = .int .i64 0 ∨ i = .int .i64 1) (fun i => 2 - (intOf i).toNat)
      case atStart => exact .inl rfl
      case round =>
        rcases hrel with rfl | rfl
        · go_wp2_with fail
          go_round
          case rel => exact .inr rfl
          case measure => simp [intOf]
        · go_wp2_with fail
          go_ret
          exact ⟨rfl, rfl⟩
    · rw [show (lng n || lng m) = false from by simp [lng, h, h']]
      have hd' : decide (50 < (m : Int)) = false := by simp; omega
      go_enter Tryd.func10, Tryd.ntmps10
      go_wp2_with fail
      go_loop [7] (fun i => i = .int .i64 0 ∨ i = .int .i64 1 ∨ i = .int .i64 2) (fun i => 2 - (intOf i).toNat)
      case atStart => exact .inl rfl
      case round =>
        rcases hrel with rfl | rfl | rfl
        · go_wp2_with fail
          go_round
          case rel => exact .inr (.inl rfl)
          case measure => simp [intOf]
        · go_wp2_with fail
          go_round
          case rel => exact .inr (.inr rfl)
          case measure => simp [intOf]
        · go_wp2_with fail
          go_ret
          exact ⟨rfl, rfl⟩
theorem lng_false {n : Nat} (h : lng n = false) : n ≤ 50 := by simpa [lng] using h

/-- binary where the widths do not fit: the result must be empty -/
theorem law_binary_no (A A' : Option Addr) (n c m c' : Nat) (z : Int) (U : Option Addr) (k ck : Nat) (hn : n ≤ maxLen) (hm : m ≤ maxLen) (h : (isN n && isN m) = false ∨ n ≠ m) (w : World) :
    Calls Tryd.prog 30 #[.slice none 0 0, .slice A n c, .slice A' m c', .agg #[.int .i64 z, .slice U k ck]] w fun e w' => e = .returned (.bool true) ∧ Below w.heap.size w w' := by
  cases h1 : isN n
  · go_enter Tryd.func30, Tryd.ntmps30
    go_wp2_with fail
    refine (ref3_Is _ _ _ hn _).mono ?_
    rintro e w' ⟨rfl, rfl⟩
    rw [h1]
    go_wp2_with fail
    go_ret
    exact ⟨rfl, (Below.refl _ _).alloc (Nat.le_refl _) _⟩
  · cases h2 : isN m
    · go_enter Tryd.func30, Tryd.ntmps30
      go_wp2_with fail
      refine (ref3_Is _ _ _ hn _).mono ?_
      rintro e w' ⟨rfl, rfl⟩
      rw [h1]
      go_wp2_with fail
      refine (ref3_Is _ _ _ hm _).mono ?_
      rintro e w' ⟨rfl, rfl⟩
      rw [h2]
      go_wp2_with fail
      go_ret
      exact ⟨rfl, (Below.refl _ _).alloc (Nat.le_refl _) _⟩
    · have hne : ((n : Int) != (m : Int)) = true := by
        rw [h1, h2] at h
        rcases h with h | h
        · cases h
        · simp; omega
      go_enter Tryd.func30, Tryd.ntmps30
      go_wp2_with fail
      refine (ref3_Is _ _ _ hn _).mono ?_
      rintro e w' ⟨rfl, rfl⟩
      rw [h1]
      go_wp2_with fail
      refine (ref3_Is _ _ _ hm _).mono ?_
      rintro e w' ⟨rfl, rfl⟩
      rw [h2]
      go_wp2_with fail
      go_ret
      exact ⟨rfl, (Below.refl _ _).alloc (Nat.le_refl _) _⟩
/-- binary where they fit: the result holds the limbs of the number -/
theorem law_binary (G A A' U : Option Addr) (n cg c c' k ck : Nat) (x : Int) (hn : n ≤ maxLen) (h1 : isN n = true) (w : World) (hg : Sl w .u64 G n cg (lmb x)) (hu : Nm w U k ck x) (hk : k ≤ 40000) :
    Calls Tryd.prog 30 #[.slice G n cg, .slice A n c, .slice A' n c', .agg #[.int .i64 (sg x), .slice U k ck]] w fun e w' => e = .returned (.bool true) ∧ Below w.heap.size w w' := by
  have hne : ((n : Int) != (n : Int)) = false := by simp
  have hn8 := isN_true h1
  have bx : Below w.heap.size w (w.alloc (.cells #[.int .i64 (sg x), .slice U k ck] 31)) := (Below.refl _ _).alloc (Nat.le_refl _) _
  have HG := Lib.hid hg; have HU := Lib.hid hu; have HBX := Lib.hid bx
  clear hg hu bx
  go_enter Tryd.func30, Tryd.ntmps30
  go_wp2_with fail
  refine (ref3_Is _ _ _ hn _).mono ?_
  rintro e w' ⟨rfl, rfl⟩
  rw [h1]
  go_wp2_with fail
  refine (ref3_Is _ _ _ hn _).mono ?_
  rintro e w' ⟨rfl, rfl⟩
  rw [h1]
  go_wp2_with fail
  refine (ref3_Limbs U k ck x _ n rfl _ (HU.out.below HBX.out (Nat.le_refl _)) hk hn8.2).mono ?_
  rintro e w1 ⟨⟨A2, c2, rfl, S2⟩, B1⟩
  have HS2 := Lib.hid S2; have HB1 := Lib.hid (HBX.out.trans (B1.mono HBX.out.size))
  clear S2 B1
  go_wp2_with fail
  refine (ref3_Same G A2 n cg c2 (lmb x) (lmb x) _ (HG.out.below HB1.out (Nat.le_refl _)) HS2.out (fun _ _ => rfl)).mono ?_
  rintro e w2 ⟨rfl, B2⟩
  have HB2 := Lib.hid (HB1.out.trans (B2.mono HB1.out.size))
  clear B2
  go_wp2_with fail
  go_ret
  exact ⟨rfl, HB2.out⟩
end Go.Proofs.YteadkjbdbljbfaaDoor
