/- Contract of the reference's Fits (geofenceref03.Fits). -/
import Derived.Test.YteadkjbdbljbfaaDoorRef3g
import Derived.Test.YteadkjbdbljbfaaDoorLimb6
namespace Go.Proofs.YteadkjbdbljbfaaDoor
set_option linter.unusedVariables false
set_option linter.unusedSimpArgs false
open Go.RowKit

/-- the number that the lowest n limbs of x hold -/
theorem low_exists (x : Int) (n : Nat) : ∃ y, Wd.Fit n y ∧ (∀ i, i < n → Wd.lmb x i = Wd.lmb y i) ∧ (Wd.Fit n x ↔ x = y) := by
  obtain ⟨y, hf, hl⟩ := Wd.lmb_exists (Wd.lmb x) n (fun i _ => Wd.isW_lmb x i)
  exact ⟨y, hf, fun i hi => (hl i hi).symm, fun h => Wd.eq_of_lmb h hf fun i hi => (hl i hi).symm, fun h => h ▸ hf⟩
theorem same_num {x y : Int} : (sg x = sg y ∧ cmpI x.natAbs y.natAbs = 0) ↔ x = y := by
  constructor
  · rintro ⟨h1, h2⟩
    unfold cmpI at h2
    have h3 := Int.sign_eq_zero_iff_zero.1 h2
    unfold sg at h1
    rcases (by omega : x = y ∨ x = -y) with h | h
    · exact h
    · subst h
      rw [Int.sign_neg] at h1
      have : y.sign = 0 := by omega
      have := Int.sign_eq_zero_iff_zero.1 this
      omega
  · rintro rfl
    exact ⟨rfl, by unfold cmpI; rw [Int.sub_self]; rfl⟩

set_option maxHeartbeats 1000000 in
theorem ref3_Fits (A : Option Addr) (k c : Nat) (x : Int) (ni : Int) (n : Nat) (hni : ni = n) (w : World) (ha : Nm w A k c x) (hk : k ≤ 40000) (hn : n ≤ 8) :
    Calls Tryd.prog 26 #[.agg #[.int .i64 (sg x), .slice A k c], .int .i64 ni] w fun e w' => e = .returned (.bool (fitB n x)) ∧ Below w.heap.size w w' := by
  subst hni
  obtain ⟨y, hy, hl, hiff⟩ := low_exists x n
  have bx : Below w.heap.size w (w.alloc (.cells #[.int .i64 (sg x), .slice A k c] 31)) := (Below.refl _ _).alloc (Nat.le_refl _) _
  have HA := Lib.hid ha; have HBX := Lib.hid bx; have HL := Lib.hid hl; have HI := Lib.hid hiff; have HY := Lib.hid hy
  clear ha bx hl hiff hy
  go_enter Tryd.func26, Tryd.ntmps26
  go_wp2_with fail
  refine (ref3_Limbs A k c x _ n rfl _ (HA.out.below HBX.out (Nat.le_refl _)) hk hn).mono ?_
  rintro e w1 ⟨⟨VL, dL, rfl, SL⟩, b1⟩
  have HSL := Lib.hid (SL.congr HL.out); have B1 := Lib.hid b1
  clear SL b1
  go_wp2_with fail
  refine (ref3_Value VL n dL y _ HSL.out HY.out (by omega)).mono ?_
  rintro e w2 ⟨⟨VY, m, dY, rfl, hm, NY⟩, b2⟩
  have HNY := Lib.hid NY; have B2 := Lib.hid (B1.out.trans (b2.mono B1.out.size))
  clear NY b2
  have hz := B2.out.size
  have q0 : ∀ o, (w2.alloc o).cell? ⟨w.heap.size, 0, none⟩ = some (.int .i64 (sg x)) := fun o => ((B2.out.alloc B2.out.size o).cell (p := ⟨w.heap.size, 0, none⟩) (by simp)).trans (by simp [go_sem])
  have q1 : ∀ o, (w2.alloc o).cell? ⟨w.heap.size, 1, none⟩ = some (.slice A k c) := fun o => ((B2.out.alloc B2.out.size o).cell (p := ⟨w.heap.size, 1, none⟩) (by simp)).trans (by simp [go_sem])
  have BB := Lib.hid (HBX.out.trans (B2.out.mono HBX.out.size))
  have HSN := Lib.hid (same_num (x := x) (y := y))
  by_cases hs : sg x = sg y
  · have e1 : (sg x == sg y) = true := by simpa using hs
    have HS := Lib.hid hs; clear hs
    go_wp2_with fail
    refine (ref3_compareDigits A VY k c m dY x.natAbs y.natAbs _ ((HA.out.below BB.out (Nat.le_refl _)).1.alloc _) HA.out.2.1 (HNY.out.1.alloc _) HNY.out.2.1).mono ?_
    rintro e w3 ⟨rfl, nq, rfl⟩
    have e3 : (cmpI x.natAbs y.natAbs == 0) = fitB n x := by
      have h1 := HSN.out
      have h2 : cmpI x.natAbs y.natAbs = 0 ↔ fitB n x = true := by
        rw [fitB_iff, HI.out, ← h1]; exact ⟨fun h => ⟨HS.out, h⟩, fun h => h.2⟩
      cases h : fitB n x
      · rw [h] at h2; simpa using h2
      · rw [h] at h2; simpa using h2
    have E3 := Lib.hid e3; clear e3
    go_wp2_with fail
    go_ret
    exact ⟨by rw [← E3.out]; rfl, (BB.out.alloc BB.out.size _).trans ⟨rfl, rfl, rfl, Nat.le_refl _, fun _ _ => rfl⟩⟩
  · have e1 : (sg x == sg y) = false := by simpa using hs
    have e2 : fitB n x = false := by
      cases h : fitB n x
      · rfl
      · exact absurd ((HSN.out.2 (HI.out.1 (fitB_iff.1 h))).1) hs
    clear hs
    have E2 := Lib.hid e2; clear e2
    go_wp2_with fail
    go_ret
    exact ⟨by rw [E2.out]; rfl, BB.out.alloc BB.out.size _⟩
end Go.Proofs.YteadkjbdbljbfaaDoor
