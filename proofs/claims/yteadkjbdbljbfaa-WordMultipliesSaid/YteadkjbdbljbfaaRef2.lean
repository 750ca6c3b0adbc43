/- Contracts of the word functions of the reference (geofenceref02), and of MulSigned with its deferred corrections: what each call returns, for every word; MulSigned makes memory of its own, none of them changes what was there. -/
import Derived.Test.YteadkjbdbljbfaaWords
namespace Go.Proofs.Yteadkjbdbljbfaa
set_option linter.unusedVariables false
set_option linter.unusedSimpArgs false
open Go.RowKit Wd

theorem ret2 {k l : IntKind} {a b c d : Int} (h : a = c) (g : b = d) : Ending.returned (.tuple #[.int k a, .int l b]) = Ending.returned (.tuple #[.int k c, .int l d]) := by rw [h, g]
theorem ret1 {k : IntKind} {a b : Int} (h : a = b) : Ending.returned (.int k a) = Ending.returned (.int k b) := by rw [h]

theorem ref2_Add (a b c : Int) (ha : IsW a) (hb : IsW b) (hc : IsW c) (w : World) :
    Calls Try.prog 15 #[.int .u64 a, .int .u64 b, .int .u64 c] w fun e w' => e = .returned (.tuple #[.int .u64 (lo (a + b + c % 2)), .int .u64 ((a + b + c % 2) / 18446744073709551616)]) ∧ w = w' := by
  have hc0 : 0 ≤ c := hc.1
  go_enter Try.func15, Try.ntmps15
  go_wp2
  all_goals
    go_ret2
    refine ⟨ret2 ?_ ?_, rfl⟩ <;> first | rfl | (simp only [wrapU, beq_iff_eq, beq_eq_false_iff_ne, ne_eq, IsW, lo] at *; omega)

theorem ref2_Sub (a b c : Int) (ha : IsW a) (hb : IsW b) (hc : IsW c) (w : World) :
    Calls Try.prog 17 #[.int .u64 a, .int .u64 b, .int .u64 c] w fun e w' => e = .returned (.tuple #[.int .u64 (lo (a - b - c % 2)), .int .u64 (bor a b (c % 2))]) ∧ w = w' := by
  have hc0 : 0 ≤ c := hc.1
  rcases (by omega : a < b ∨ a = b ∨ b < a) with h | h | h
  · have e1 : bor a b (c % 2) = 1 := by unfold bor; rw [if_pos (by omega)]
    rw [e1]; clear e1
    go_enter Try.func17, Try.ntmps17
    go_wp2
    all_goals
      go_ret2
      refine ⟨ret2 ?_ ?_, rfl⟩ <;> first | rfl | (simp only [wrapU, beq_iff_eq, beq_eq_false_iff_ne, ne_eq, IsW, lo] at *; omega)
  · subst h
    have e1 : bor a a (c % 2) = c % 2 := by unfold bor; split <;> omega
    rw [e1]; clear e1
    go_enter Try.func17, Try.ntmps17
    go_wp2
    all_goals
      go_ret2
      refine ⟨ret2 ?_ ?_, rfl⟩ <;> first | rfl | (simp only [wrapU, beq_iff_eq, beq_eq_false_iff_ne, ne_eq, IsW, lo] at *; omega)
  · have e1 : bor a b (c % 2) = 0 := by unfold bor; rw [if_neg (by omega)]
    have h1 : ¬ a < b := by omega
    have h2 : (a == b) = false := by simp; omega
    rw [e1]; clear e1
    go_enter Try.func17, Try.ntmps17
    go_wp2
    all_goals
      go_ret2
      refine ⟨ret2 ?_ ?_, rfl⟩ <;> first | rfl | (simp only [wrapU, beq_iff_eq, beq_eq_false_iff_ne, ne_eq, IsW, lo] at *; omega)

theorem ref2_Fill (a : Int) (ha : IsW a) (w : World) :
    Calls Try.prog 13 #[.int .u64 a] w fun e w' => e = .returned (.int .u64 (msk (decide (9223372036854775808 ≤ a)))) ∧ w = w' := by
  by_cases h : 9223372036854775808 ≤ a
  · have e1 : msk (decide (9223372036854775808 ≤ a)) = 18446744073709551615 := by simp [h, msk]
    rw [e1]; clear e1
    go_enter Try.func13, Try.ntmps13
    go_wp2
    go_ret
    exact ⟨rfl, rfl⟩
  · have e1 : msk (decide (9223372036854775808 ≤ a)) = 0 := by simp [h, msk]
    rw [e1]; clear e1
    go_enter Try.func13, Try.ntmps13
    go_wp2
    go_ret
    exact ⟨rfl, rfl⟩

theorem mask_Negative (a : Int) (ha : IsI a) (w : World) :
    Calls Try.prog 22 #[.int .i64 a] w fun e w' => e = .returned (.int .u64 (msk (decide (a < 0)))) ∧ w = w' := by
  go_enter Try.func22, Try.ntmps22
  go_wp2
  go_ret
  refine ⟨ret1 ?_, rfl⟩
  simp only [wrapU]
  unfold IsI at ha; unfold lo msk
  by_cases h : a < 0 <;> simp [h] <;> omega

theorem ref2_Add0 (a b : Int) (ha : IsW a) (hb : IsW b) (w : World) :
    Calls Try.prog 15 #[.int .u64 a, .int .u64 b, .int .u64 0] w fun e w' => e = .returned (.tuple #[.int .u64 (lo (a + b)), .int .u64 ((a + b) / 18446744073709551616)]) ∧ w = w' := by
  have h := ref2_Add a b 0 ha hb (by unfold IsW; omega) w
  rw [show a + b + 0 % 2 = a + b from by omega] at h
  exact h

theorem ref2_AddC (a c : Int) (ha : IsW a) (hc : 0 ≤ c ∧ c ≤ 1) (w : World) :
    Calls Try.prog 15 #[.int .u64 a, .int .u64 0, .int .u64 c] w fun e w' => e = .returned (.tuple #[.int .u64 (lo (a + c)), .int .u64 ((a + c) / 18446744073709551616)]) ∧ w = w' := by
  have h := ref2_Add a 0 c ha (by unfold IsW; omega) (by unfold IsW; omega) w
  rw [show a + 0 + c % 2 = a + c from by omega] at h
  exact h

theorem mulAdd_ref {a b c d x y z v : Int} (ha : IsW a) (hb : IsW b) (hc : IsW c) (hd : IsW d) (hx : 0 ≤ x ∧ x ≤ 18446744065119617025) (hy : 0 ≤ y ∧ y ≤ 18446744065119617025) (hz : 0 ≤ z ∧ z ≤ 18446744065119617025) (hv : 0 ≤ v ∧ v ≤ 18446744065119617025)
    (hp : a * b = v * 18446744073709551616 + (y + z) * 4294967296 + x) :
    lo (lo (lo (lo (x + y % 4294967296 * 4294967296) + z % 4294967296 * 4294967296) + c) + d) = lo (a * b + c + d) ∧
    lo (lo (lo (lo (lo (v + y / 4294967296 + z / 4294967296) + (x + y % 4294967296 * 4294967296) / 18446744073709551616) + (lo (x + y % 4294967296 * 4294967296) + z % 4294967296 * 4294967296) / 18446744073709551616) +
      (lo (lo (x + y % 4294967296 * 4294967296) + z % 4294967296 * 4294967296) + c) / 18446744073709551616) + (lo (lo (lo (x + y % 4294967296 * 4294967296) + z % 4294967296 * 4294967296) + c) + d) / 18446744073709551616) = hi (a * b + c + d) := by
  rw [hp]
  unfold IsW lo hi at *
  omega

set_option maxHeartbeats 400000 in
theorem ref2_MulAdd (a b c d : Int) (ha : IsW a) (hb : IsW b) (hc : IsW c) (hd : IsW d) (w : World) :
    Calls Try.prog 19 #[.int .u64 a, .int .u64 b, .int .u64 c, .int .u64 d] w fun e w' => e = .returned (.tuple #[.int .u64 (hi (a * b + c + d)), .int .u64 (lo (a * b + c + d))]) ∧ w = w' := by
  obtain ⟨x, y, z, v, ex, ey, ez, ev, hx, hy, hz, hv, hp⟩ := halves ha hb hc hd
  have hfin := mulAdd_ref ha hb hc hd hx hy hz hv hp
  have a0 : 0 ≤ a ∧ 0 ≤ b := ⟨ha.1, hb.1⟩
  rw [← hfin.1, ← hfin.2]
  clear hfin hp
  have wx : IsW x := by unfold IsW; omega
  have wy : IsW (y % 4294967296 * 4294967296) := by unfold IsW; omega
  have wz : IsW (z % 4294967296 * 4294967296) := by unfold IsW; omega
  have hx' := hx; have hy' := hy; have hz' := hz; have hv' := hv
  rw [ex] at hx'; rw [ey] at hy'; rw [ez] at hz'; rw [ev] at hv'
  have Ex := Lib.hid ex; have Ey := Lib.hid ey; have Ez := Lib.hid ez; have Ev := Lib.hid ev
  clear ex ey ez ev
  have ua : a ≤ 18446744073709551615 ∧ b ≤ 18446744073709551615 := by unfold IsW at *; omega
  go_enter Try.func19, Try.ntmps19
  go_wp2_with fail
  rw [← Ex.out, ← Ey.out, ← Ez.out, ← Ev.out]
  refine (ref2_Add0 _ _ wx wy _).mono ?_
  rintro e w' ⟨rfl, rfl⟩
  go_wp2_with fail
  refine (ref2_Add0 _ _ (isW_lo _) wz _).mono ?_
  rintro e w' ⟨rfl, rfl⟩
  go_wp2_with fail
  refine (ref2_Add0 _ _ (isW_lo _) hc _).mono ?_
  rintro e w' ⟨rfl, rfl⟩
  go_wp2_with fail
  refine (ref2_Add0 _ _ (isW_lo _) hd _).mono ?_
  rintro e w' ⟨rfl, rfl⟩
  go_wp2_with fail
  go_ret2
  refine ⟨ret2 ?_ rfl, rfl⟩
  simp only [wrapU, lo_add_lo]

theorem ref2_MulAdd00 (a b : Int) (ha : IsW a) (hb : IsW b) (w : World) :
    Calls Try.prog 19 #[.int .u64 a, .int .u64 b, .int .u64 0, .int .u64 0] w fun e w' => e = .returned (.tuple #[.int .u64 (hi (a * b)), .int .u64 (lo (a * b))]) ∧ w = w' := by
  have h := ref2_MulAdd a b 0 0 ha hb (by unfold IsW; omega) (by unfold IsW; omega) w
  rw [show a * b + 0 + 0 = a * b from by omega] at h
  exact h

theorem neg_split (p : Int) : lo (18446744073709551615 - lo p + 1) = lo (-p) ∧ lo (18446744073709551615 - hi p + (18446744073709551615 - lo p + 1) / 18446744073709551616) = hi (-p) := by
  unfold lo hi; omega

theorem ref2_MulSigned (a b : Int) (ha : IsI a) (hb : IsI b) (w : World) :
    Calls Try.prog 10 #[.int .i64 a, .int .i64 b] w fun e w' => e = .returned (.tuple #[.int .u64 (hi (a * b)), .int .u64 (lo (a * b))]) ∧ w = w' := by
  have na : a < 0 → IsW (-a) ∧ IntKind.u64.wrap (-IntKind.u64.wrap a) = -a := by intro h; rw [wrapU, wrapU]; unfold IsI at ha; unfold IsW lo; omega
  have nb : b < 0 → IsW (-b) ∧ IntKind.u64.wrap (-IntKind.u64.wrap b) = -b := by intro h; rw [wrapU, wrapU]; unfold IsI at hb; unfold IsW lo; omega
  have pa : ¬ a < 0 → IsW a ∧ IntKind.u64.wrap a = a := by intro h; rw [wrapU]; unfold IsI at ha; unfold IsW lo; omega
  have pb : ¬ b < 0 → IsW b ∧ IntKind.u64.wrap b = b := by intro h; rw [wrapU]; unfold IsI at hb; unfold IsW lo; omega
  by_cases h1 : a < 0 <;> by_cases h2 : b < 0
  · obtain ⟨wa, ea⟩ := na h1
    obtain ⟨wb, eb⟩ := nb h2
    clear na nb pa pb
    rw [← Int.neg_mul_neg a b]
    go_enter Try.func10, Try.ntmps10
    go_wp2_with (go_at_call 19; refine (ref2_MulAdd00 _ _ wa wb _).mono ?_; rintro e w' ⟨rfl, rfl⟩)
    go_ret2
    exact ⟨rfl, rfl⟩
  · obtain ⟨wa, ea⟩ := na h1
    obtain ⟨wb, eb⟩ := pb h2
    clear na nb pa pb
    have hs := neg_split (-a * b)
    have d2 : decide (b < 0) = false := by simpa using h2
    rw [show a * b = -(-a * b) from by rw [Int.neg_mul, Int.neg_neg], ← hs.1, ← hs.2]
    clear hs
    go_enter Try.func10, Try.ntmps10
    go_wp2_with fail
    refine (ref2_MulAdd00 _ _ wa wb _).mono ?_
    rintro e w' ⟨rfl, rfl⟩
    go_wp2_with fail
    rw [not_w (isW_lo _)]
    refine (ref2_Add0 _ _ (by have := isW_lo (-a * b); unfold IsW at *; omega) (by unfold IsW; omega) _).mono ?_
    rintro e w' ⟨rfl, rfl⟩
    go_wp2_with fail
    rw [not_w (isW_hi _)]
    refine (ref2_AddC _ _ (by have := isW_hi (-a * b); unfold IsW at *; omega) (by have := isW_lo (-a * b); unfold IsW at *; omega) _).mono ?_
    rintro e w' ⟨rfl, rfl⟩
    go_wp2_with fail
    go_ret2
    exact ⟨rfl, rfl⟩
  · obtain ⟨wa, ea⟩ := pa h1
    obtain ⟨wb, eb⟩ := nb h2
    clear na nb pa pb
    have hs := neg_split (a * -b)
    have d1 : decide (a < 0) = false := by simpa using h1
    rw [show a * b = -(a * -b) from by rw [Int.mul_neg, Int.neg_neg], ← hs.1, ← hs.2]
    clear hs
    go_enter Try.func10, Try.ntmps10
    go_wp2_with fail
    refine (ref2_MulAdd00 _ _ wa wb _).mono ?_
    rintro e w' ⟨rfl, rfl⟩
    go_wp2_with fail
    rw [not_w (isW_lo _)]
    refine (ref2_Add0 _ _ (by have := isW_lo (a * -b); unfold IsW at *; omega) (by unfold IsW; omega) _).mono ?_
    rintro e w' ⟨rfl, rfl⟩
    go_wp2_with fail
    rw [not_w (isW_hi _)]
    refine (ref2_AddC _ _ (by have := isW_hi (a * -b); unfold IsW at *; omega) (by have := isW_lo (a * -b); unfold IsW at *; omega) _).mono ?_
    rintro e w' ⟨rfl, rfl⟩
    go_wp2_with fail
    go_ret2
    exact ⟨rfl, rfl⟩
  · obtain ⟨wa, ea⟩ := pa h1
    obtain ⟨wb, eb⟩ := pb h2
    clear na nb pa pb
    have d1 : decide (a < 0) = false := by simpa using h1
    have d2 : decide (b < 0) = false := by simpa using h2
    go_enter Try.func10, Try.ntmps10
    go_wp2_with (go_at_call 19; refine (ref2_MulAdd00 _ _ wa wb _).mono ?_; rintro e w' ⟨rfl, rfl⟩)
    go_ret2
    exact ⟨rfl, rfl⟩
end Go.Proofs.Yteadkjbdbljbfaa
