/- Plain arithmetic of integers in two's complement: the limbs of an integer, the carries of sums and differences, the rows of a product. No program in sight. -/
import Derived.Test.YtoikcgmdlccdbaaDoorMath
namespace Go.Proofs.YtoikcgmdlccdbaaDoor
set_option linter.unusedVariables false
set_option linter.unusedSimpArgs false
namespace Wd

/-- 2^(64 i) -/
def S (i : Nat) : Int := 18446744073709551616 ^ i
/-- what is above the first i limbs -/
def qt (x : Int) (i : Nat) : Int := x / S i
/-- limb i of x -/
def lmb (x : Int) (i : Nat) : Int := qt x i % 18446744073709551616
/-- x fits into n limbs -/
def Fit (n : Nat) (x : Int) : Prop := -S n ≤ 2 * x ∧ 2 * x < S n

theorem S_zero : S 0 = 1 := rfl
theorem S_succ (i : Nat) : S (i + 1) = S i * 18446744073709551616 := Int.pow_succ _ _
theorem S_pos (i : Nat) : 0 < S i := by
  induction i with
  | zero => rw [S_zero]; omega
  | succ n ih => rw [S_succ]; omega
theorem S_add (i j : Nat) : S (i + j) = S i * S j := Int.pow_add _ _ _
theorem S_le {i j : Nat} (h : i ≤ j) : S i ≤ S j := by
  induction j with
  | zero => rw [show i = 0 from by omega]; exact Int.le_refl _
  | succ n ih =>
    by_cases hi : i ≤ n
    · have := ih hi; have := S_pos n; rw [S_succ]; omega
    · rw [show i = n + 1 from by omega]; exact Int.le_refl _
theorem qt_zero (x : Int) : qt x 0 = x := by unfold qt; rw [S_zero, Int.ediv_one]
theorem qt_succ (x : Int) (i : Nat) : qt x (i + 1) = qt x i / 18446744073709551616 := by
  unfold qt; rw [S_succ, Int.ediv_ediv_of_nonneg (Int.le_of_lt (S_pos i))]
theorem qt_add_mul (x t : Int) (i : Nat) : qt (x + t * S i) i = qt x i + t := by
  unfold qt; exact Int.add_mul_ediv_right x t (Int.ne_of_gt (S_pos i))
theorem qt_add (x : Int) (i j : Nat) : qt x (i + j) = qt (qt x i) j := by
  unfold qt; rw [S_add, Int.ediv_ediv_of_nonneg (Int.le_of_lt (S_pos i))]
theorem isW_lmb (x : Int) (i : Nat) : IsW (lmb x i) := by unfold IsW lmb; omega
theorem lmb_zero (i : Nat) : lmb 0 i = 0 := by simp [lmb, qt]
theorem lmb_cong (x t : Int) {n i : Nat} (h : i < n) : lmb (x + t * S n) i = lmb x i := by
  obtain ⟨k, rfl⟩ : ∃ k, n = i + (k + 1) := ⟨n - i - 1, by omega⟩
  have e : t * S (i + (k + 1)) = (t * S k * 18446744073709551616) * S i := by
    rw [S_add, S_succ, Int.mul_comm (S i), ← Int.mul_assoc, ← Int.mul_assoc]
  unfold lmb
  rw [e, qt_add_mul]
  omega
theorem fit_qt {n : Nat} {x : Int} (h : Fit n x) {i : Nat} (hi : n ≤ i) : qt x i = if x < 0 then -1 else 0 := by
  have h1 := S_pos n
  have h2 := S_le hi
  have h3 := S_pos i
  unfold Fit at h
  unfold qt
  split
  · exact (Int.ediv_eq_iff_of_pos h3).2 ⟨by omega, by omega⟩
  · exact Int.ediv_eq_zero_of_lt (by omega) (by omega)
theorem lmb_fill {n : Nat} {x : Int} (h : Fit n x) {i : Nat} (hi : n ≤ i) : lmb x i = msk (decide (x < 0)) := by
  unfold lmb msk
  rw [fit_qt h hi]
  by_cases h0 : x < 0 <;> simp [h0]
theorem fit_top {n : Nat} {x : Int} (h : Fit (n + 1) x) : -9223372036854775808 ≤ qt x n ∧ qt x n < 9223372036854775808 := by
  have h1 := S_pos n
  unfold Fit at h
  rw [S_succ] at h
  unfold qt
  constructor
  · exact Int.le_ediv_of_mul_le h1 (by omega)
  · exact Int.ediv_lt_of_lt_mul h1 (by omega)
theorem qt_neg {x : Int} {n : Nat} : qt x n < 0 ↔ x < 0 := by
  have h1 := S_pos n
  unfold qt
  constructor
  · intro h
    rcases (by omega : x < 0 ∨ 0 ≤ x) with h0 | h0
    · exact h0
    · have := Int.ediv_nonneg h0 (Int.le_of_lt h1); omega
  · intro h; exact Int.ediv_neg_of_neg_of_pos h h1
theorem top_neg {n : Nat} {x : Int} (h : Fit (n + 1) x) : 9223372036854775808 ≤ lmb x n ↔ x < 0 := by
  have h1 := fit_top h
  have h2 := qt_neg (x := x) (n := n)
  unfold lmb
  omega

/-! sums and differences -/
def car (x y : Int) (i : Nat) : Int := qt (x + y) i - qt x i - qt y i
theorem car_zero (x y : Int) : car x y 0 = 0 := by unfold car; rw [qt_zero, qt_zero, qt_zero]; omega
theorem car_le (x y : Int) (i : Nat) : 0 ≤ car x y i ∧ car x y i ≤ 1 := by
  induction i with
  | zero => rw [car_zero]; omega
  | succ n ih => unfold car at *; rw [qt_succ, qt_succ, qt_succ]; omega
theorem add_step (x y : Int) (i : Nat) : lo (lmb x i + lmb y i + car x y i % 2) = lmb (x + y) i ∧ (lmb x i + lmb y i + car x y i % 2) / 18446744073709551616 = car x y (i + 1) := by
  have h := car_le x y i
  have e : car x y (i + 1) = qt (x + y) i / 18446744073709551616 - qt x i / 18446744073709551616 - qt y i / 18446744073709551616 := by unfold car; rw [qt_succ, qt_succ, qt_succ]
  rw [e]
  unfold car at h
  unfold lo lmb car
  omega
def brw (x y : Int) (i : Nat) : Int := qt x i - qt y i - qt (x - y) i
theorem brw_zero (x y : Int) : brw x y 0 = 0 := by unfold brw; rw [qt_zero, qt_zero, qt_zero]; omega
theorem brw_le (x y : Int) (i : Nat) : 0 ≤ brw x y i ∧ brw x y i ≤ 1 := by
  induction i with
  | zero => rw [brw_zero]; omega
  | succ n ih => unfold brw at *; rw [qt_succ, qt_succ, qt_succ]; omega
theorem sub_step (x y : Int) (i : Nat) : lo (lmb x i - lmb y i - brw x y i % 2) = lmb (x - y) i ∧ bor (lmb x i) (lmb y i) (brw x y i % 2) = brw x y (i + 1) := by
  have h := brw_le x y i
  have e : brw x y (i + 1) = qt x i / 18446744073709551616 - qt y i / 18446744073709551616 - qt (x - y) i / 18446744073709551616 := by unfold brw; rw [qt_succ, qt_succ, qt_succ]
  rw [e]
  unfold brw at h
  unfold lo lmb bor brw
  refine ⟨by omega, ?_⟩
  split <;> omega
theorem isW_car (x y : Int) (i : Nat) : IsW (car x y i) := by have := car_le x y i; unfold IsW; omega
theorem isW_brw (x y : Int) (i : Nat) : IsW (brw x y i) := by have := brw_le x y i; unfold IsW; omega

/-! products -/
/-- x y, of x only the first i limbs -/
def prt (x y : Int) (i : Nat) : Int := (x - qt x i * S i) * y
theorem prt_zero (x y : Int) : prt x y 0 = 0 := by unfold prt; rw [qt_zero, S_zero, Int.mul_one, Int.sub_self, Int.zero_mul]
theorem prt_succ (x y : Int) (i : Nat) : prt x y (i + 1) = prt x y i + lmb x i * y * S i := by
  unfold prt lmb
  rw [qt_succ, S_succ]
  have e : qt x i = qt x i / 18446744073709551616 * 18446744073709551616 + qt x i % 18446744073709551616 := by omega
  generalize qt x i / 18446744073709551616 = u at *
  generalize qt x i % 18446744073709551616 = v at *
  rw [e, Int.sub_mul, Int.sub_mul, Int.add_mul, Int.add_mul]
  have e1 : u * (S i * 18446744073709551616) = u * 18446744073709551616 * S i := by rw [Int.mul_assoc, Int.mul_comm (S i), ← Int.mul_assoc]
  have e2 : v * y * S i = v * S i * y := by rw [Int.mul_assoc, Int.mul_comm y, ← Int.mul_assoc]
  rw [e1, e2]
  omega
theorem prt_last (x y : Int) {n k : Nat} (h : k < n) : lmb (prt x y n) k = lmb (x * y) k := by
  have e : prt x y n = x * y + (-(qt x n * y)) * S n := by
    unfold prt; rw [Int.sub_mul, Int.neg_mul, Int.mul_assoc (qt x n), Int.mul_comm (S n), ← Int.mul_assoc]; omega
  rw [e, lmb_cong _ _ h]
/-- the carry within row i, at column j -/
def kar (x y : Int) (i j : Nat) : Int := qt (prt x y (i + 1)) (i + j) - qt (prt x y i) (i + j) - lmb x i * qt y j
theorem kar_zero (x y : Int) (i : Nat) : kar x y i 0 = 0 := by
  unfold kar; rw [prt_succ, Nat.add_zero, qt_add_mul, qt_zero]; omega
theorem mul_core {a p y k Q : Int} (ha : IsW a) (hk : IsW k) (hQ : Q - p - a * y = k) :
    lo (a * (y % 18446744073709551616) + p % 18446744073709551616 + k) = Q % 18446744073709551616 ∧
    hi (a * (y % 18446744073709551616) + p % 18446744073709551616 + k) = Q / 18446744073709551616 - p / 18446744073709551616 - a * (y / 18446744073709551616) ∧
    IsW (Q / 18446744073709551616 - p / 18446744073709551616 - a * (y / 18446744073709551616)) := by
  have e : y = y / 18446744073709551616 * 18446744073709551616 + y % 18446744073709551616 := by omega
  have hy : IsW (y % 18446744073709551616) := by unfold IsW; omega
  have hp := isW_lt_mul ha hy
  have e2 : a * y = a * (y / 18446744073709551616) * 18446744073709551616 + a * (y % 18446744073709551616) := by
    conv => lhs; rw [e]
    rw [Int.mul_add, Int.mul_assoc]
  rw [e2] at hQ
  generalize a * (y / 18446744073709551616) = u at *
  generalize a * (y % 18446744073709551616) = v at *
  unfold IsW lo hi at *
  omega
theorem kar_step (x y : Int) (i j : Nat) (hk : IsW (kar x y i j)) :
    lo (lmb x i * lmb y j + lmb (prt x y i) (i + j) + kar x y i j) = lmb (prt x y (i + 1)) (i + j) ∧
    hi (lmb x i * lmb y j + lmb (prt x y i) (i + j) + kar x y i j) = kar x y i (j + 1) ∧ IsW (kar x y i (j + 1)) := by
  have h := mul_core (a := lmb x i) (p := qt (prt x y i) (i + j)) (y := qt y j) (k := kar x y i j) (Q := qt (prt x y (i + 1)) (i + j)) (isW_lmb x i) hk rfl
  have e : kar x y i (j + 1) = qt (prt x y (i + 1)) (i + j) / 18446744073709551616 - qt (prt x y i) (i + j) / 18446744073709551616 - lmb x i * (qt y j / 18446744073709551616) := by
    unfold kar; rw [← Nat.add_assoc, qt_succ, qt_succ, qt_succ]
  rw [e]
  exact h
theorem isW_kar (x y : Int) (i j : Nat) : IsW (kar x y i j) := by
  induction j with
  | zero => rw [kar_zero]; unfold IsW; omega
  | succ n ih => exact (kar_step x y i n ih).2.2
/-- a row that is shorter than x: limbs below i are final -/
theorem prt_low (x y : Int) {i k : Nat} (h : k < i) : lmb (prt x y (i + 1)) k = lmb (prt x y i) k := by
  rw [prt_succ, lmb_cong _ _ h]

/-! an integer is known by its limbs -/
theorem qt_eq_of_lmb {x y : Int} : ∀ {n : Nat}, (∀ i, i < n → lmb x i = lmb y i) → ∃ t, x - y = t * S n
  | 0, _ => ⟨x - y, by rw [S_zero]; omega⟩
  | n + 1, h => by
    obtain ⟨t, ht⟩ := qt_eq_of_lmb (n := n) (fun i hi => h i (by omega))
    have h1 := h n (by omega)
    have e : x = y + t * S n := by omega
    rw [e] at h1
    unfold lmb at h1
    rw [qt_add_mul] at h1
    refine ⟨t / 18446744073709551616, ?_⟩
    rw [S_succ, Int.mul_comm (S n), ← Int.mul_assoc, show t / 18446744073709551616 * 18446744073709551616 = t from by omega]
    exact ht
theorem eq_of_lmb {x y : Int} {n : Nat} (hx : Fit n x) (hy : Fit n y) (h : ∀ i, i < n → lmb x i = lmb y i) : x = y := by
  obtain ⟨t, ht⟩ := qt_eq_of_lmb h
  have hS := S_pos n
  unfold Fit at hx hy
  rcases (by omega : t = 0 ∨ 1 ≤ t ∨ t ≤ -1) with h0 | h0 | h0
  · rw [h0] at ht; omega
  · have : 1 * S n ≤ t * S n := Int.mul_le_mul_of_nonneg_right h0 (Int.le_of_lt hS)
    omega
  · have : t * S n ≤ -1 * S n := Int.mul_le_mul_of_nonneg_right h0 (Int.le_of_lt hS)
    omega
theorem zero_of_lmb {x : Int} {n : Nat} (hx : Fit n x) (h : ∀ i, i < n → lmb x i = 0) : x = 0 :=
  eq_of_lmb hx (by have := S_pos n; unfold Fit; omega) (fun i hi => by rw [h i hi, lmb_zero])
/-- every row of words is the limbs of an integer that fits -/
theorem lmb_exists_nat (f : Nat → Int) : ∀ n, (∀ i, i < n → IsW (f i)) → ∃ x, 0 ≤ x ∧ x < S n ∧ ∀ i, i < n → lmb x i = f i
  | 0, _ => ⟨0, by omega, by rw [S_zero]; omega, fun i hi => absurd hi (by omega)⟩
  | n + 1, h => by
    obtain ⟨x, h0, h1, h2⟩ := lmb_exists_nat f n (fun i hi => h i (by omega))
    have hn := h n (by omega)
    have hS := S_pos n
    unfold IsW at hn
    have hm1 := Int.mul_nonneg hn.1 (Int.le_of_lt hS)
    have hm2 : f n * S n ≤ 18446744073709551615 * S n := Int.mul_le_mul_of_nonneg_right (by omega) (Int.le_of_lt hS)
    refine ⟨x + f n * S n, by omega, by rw [S_succ]; omega, fun i hi => ?_⟩
    by_cases hin : i < n
    · rw [lmb_cong _ _ hin, h2 i hin]
    · obtain rfl : i = n := by omega
      unfold lmb
      rw [qt_add_mul]
      have : qt x i = 0 := Int.ediv_eq_zero_of_lt h0 h1
      rw [this]; omega
theorem lmb_exists (f : Nat → Int) (n : Nat) (h : ∀ i, i < n → IsW (f i)) : ∃ x, Fit n x ∧ ∀ i, i < n → lmb x i = f i := by
  obtain ⟨x, h0, h1, h2⟩ := lmb_exists_nat f n h
  have hS := S_pos n
  rcases (by omega : 2 * x < S n ∨ S n ≤ 2 * x) with hx | hx
  · exact ⟨x, ⟨by omega, hx⟩, h2⟩
  · refine ⟨x + -1 * S n, ⟨by omega, by omega⟩, fun i hi => by rw [lmb_cong _ _ hi, h2 i hi]⟩
theorem fit_mono {n m : Nat} {x : Int} (h : Fit n x) (hm : n ≤ m) : Fit m x := by
  have := S_le hm; unfold Fit at *; omega
theorem fit_I {x : Int} (h : IsI x) {n : Nat} (hn : 1 ≤ n) : Fit n x := by
  refine fit_mono (n := 1) ?_ hn
  unfold IsI at h; unfold Fit; rw [show S 1 = 18446744073709551616 from rfl]; omega
end Wd
/-- the sign, as a word that the walk leaves alone -/
def sg (x : Int) : Int := x.sign
end Go.Proofs.YtoikcgmdlccdbaaDoor
