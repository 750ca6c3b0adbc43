/- Polygons over the integers: validity and positions, in plain Lean. No program's run. -/
import Derived.Test.YtoikcgmdlccdbaaDoorGeo
import Derived.Test.YtoikcgmdlccdbaaDoorMask
namespace Go.Proofs.YtoikcgmdlccdbaaDoor
set_option linter.unusedVariables false
set_option linter.unusedSimpArgs false
open Go.RowKit Wd

/-- the orientation of the edge from vertex i and a point -/
def edg (f g : Nat → Int) (n i : Nat) (x y : Int) : Int := det (f i) (g i) (f ((i + 1) % n)) (g ((i + 1) % n)) x y
def inP (n : Nat) : Prop := 3 ≤ n ∧ n ≤ 64
instance (n : Nat) : Decidable (inP n) := inferInstanceAs (Decidable (_ ∧ _))
def ori (f g : Nat → Int) (n : Nat) : Int := if inP n then sg (det (f 0) (g 0) (f 1) (g 1) (f 2) (g 2)) else 0
def allB (p : Nat → Bool) : Nat → Bool
  | 0 => true
  | k + 1 => allB p k && p k
def anyB (p : Nat → Bool) : Nat → Bool
  | 0 => false
  | k + 1 => anyB p k || p k
theorem allB_iff (p : Nat → Bool) : ∀ k, allB p k = true ↔ ∀ i, i < k → p i = true
  | 0 => by simp [allB]
  | k + 1 => by
    simp only [allB, Bool.and_eq_true, allB_iff p k]
    constructor
    · rintro ⟨h1, h2⟩ i hi
      rcases (by omega : i < k ∨ i = k) with h | rfl
      · exact h1 i h
      · exact h2
    · intro h; exact ⟨fun i hi => h i (by omega), h k (by omega)⟩
theorem anyB_iff (p : Nat → Bool) : ∀ k, anyB p k = true ↔ ∃ i, i < k ∧ p i = true
  | 0 => by simp [anyB]
  | k + 1 => by
    simp only [anyB, Bool.or_eq_true, anyB_iff p k]
    constructor
    · rintro (⟨i, h1, h2⟩ | h)
      · exact ⟨i, by omega, h2⟩
      · exact ⟨k, by omega, h⟩
    · rintro ⟨i, h1, h2⟩
      rcases (by omega : i < k ∨ i = k) with h | rfl
      · exact .inl ⟨i, h, h2⟩
      · exact .inr h2
theorem allB_congr {p q : Nat → Bool} {k : Nat} (h : ∀ i, i < k → p i = q i) : allB p k = allB q k := by
  rw [Bool.eq_iff_iff, allB_iff, allB_iff]
  exact ⟨fun a i hi => (h i hi) ▸ a i hi, fun a i hi => (h i hi) ▸ a i hi⟩
theorem anyB_congr {p q : Nat → Bool} {k : Nat} (h : ∀ i, i < k → p i = q i) : anyB p k = anyB q k := by
  rw [Bool.eq_iff_iff, anyB_iff, anyB_iff]
  exact ⟨fun ⟨i, h1, h2⟩ => ⟨i, h1, (h i h1) ▸ h2⟩, fun ⟨i, h1, h2⟩ => ⟨i, h1, (h i h1) ▸ h2⟩⟩
/-- vertex j is passed over at edge i -/
def skip (n i j : Nat) : Bool := decide (j = i) || decide (j = (i + 1) % n)
def okAt (f g : Nat → Int) (n : Nat) (s : Int) (i j : Nat) : Bool := skip n i j || decide (sg (edg f g n i (f j) (g j)) = s)
def validP (f g : Nat → Int) (n : Nat) : Bool := decide (inP n) && !decide (ori f g n = 0) && allB (fun i => allB (okAt f g n (ori f g n) i) n) n
/-- the side of the edge from vertex i -/
def sideP (f g : Nat → Int) (n : Nat) (x y : Int) (i : Nat) : Int := ori f g n * sg (edg f g n i x y)
def locP (f g : Nat → Int) (n : Nat) (x y : Int) : Int := if inP n then sgnM (anyB (fun i => decide (sideP f g n x y i < 0)) n) (anyB (fun i => decide (sideP f g n x y i = 0)) n) else -1
theorem sg_range (x : Int) : sg x = -1 ∨ sg x = 0 ∨ sg x = 1 := by
  unfold sg
  rcases (by omega : x < 0 ∨ x = 0 ∨ 0 < x) with h | rfl | h
  · exact .inl (Int.sign_eq_neg_one_of_neg h)
  · exact .inr (.inl rfl)
  · exact .inr (.inr (Int.sign_eq_one_of_pos h))
theorem ori_range (f g : Nat → Int) (n : Nat) : ori f g n = -1 ∨ ori f g n = 0 ∨ ori f g n = 1 := by
  unfold ori; split
  · exact sg_range _
  · exact .inr (.inl rfl)
theorem sideP_range (f g : Nat → Int) (n : Nat) (x y : Int) (i : Nat) : sideP f g n x y i = -1 ∨ sideP f g n x y i = 0 ∨ sideP f g n x y i = 1 := by
  unfold sideP
  rcases ori_range f g n with h | h | h <;> rcases sg_range (edg f g n i x y) with h2 | h2 | h2 <;> rw [h, h2] <;> decide
/-- the least of 1 and the first k sides -/
def minS (q : Nat → Int) : Nat → Int
  | 0 => 1
  | k + 1 => min (minS q k) (q k)
theorem minS_eq (q : Nat → Int) (hq : ∀ i, q i = -1 ∨ q i = 0 ∨ q i = 1) : ∀ k, minS q k = sgnM (anyB (fun i => decide (q i < 0)) k) (anyB (fun i => decide (q i = 0)) k)
  | 0 => rfl
  | k + 1 => by
    rw [minS, minS_eq q hq k]
    simp only [anyB]
    cases anyB (fun i => decide (q i < 0)) k <;> cases anyB (fun i => decide (q i = 0)) k <;> rcases hq k with h | h | h <;> rw [h] <;> decide
theorem ori_in {f g : Nat → Int} {n : Nat} (h : inP n) : ori f g n = sg (det (f 0) (g 0) (f 1) (g 1) (f 2) (g 2)) := by unfold ori; rw [if_pos h]
theorem ori_out {f g : Nat → Int} {n : Nat} (h : ¬ inP n) : ori f g n = 0 := by unfold ori; rw [if_neg h]
theorem validP_out {f g : Nat → Int} {n : Nat} (h : ¬ inP n) : validP f g n = false := by unfold validP; simp [h]
theorem locP_out {f g : Nat → Int} {n : Nat} {x y : Int} (h : ¬ inP n) : locP f g n x y = -1 := by unfold locP; rw [if_neg h]
theorem locP_in {f g : Nat → Int} {n : Nat} {x y : Int} (h : inP n) : locP f g n x y = minS (sideP f g n x y) n := by
  unfold locP; rw [if_pos h, minS_eq _ (sideP_range f g n x y)]
/-- validity, said in words -/
theorem validP_iff {f g : Nat → Int} {n : Nat} : validP f g n = true ↔ inP n ∧ ori f g n ≠ 0 ∧ ∀ i j, i < n → j < n → j ≠ i → j ≠ (i + 1) % n → sg (edg f g n i (f j) (g j)) = ori f g n := by
  unfold validP
  simp only [Bool.and_eq_true, decide_eq_true_eq, Bool.not_eq_true', decide_eq_false_iff_not, allB_iff, okAt, skip, Bool.or_eq_true]
  constructor
  · rintro ⟨⟨h1, h2⟩, h3⟩
    refine ⟨h1, h2, fun i j hi hj h4 h5 => ?_⟩
    rcases h3 i hi j hj with (h | h) | h
    · exact absurd h h4
    · exact absurd h h5
    · exact h
  · rintro ⟨h1, h2, h3⟩
    refine ⟨⟨h1, h2⟩, fun i hi j hj => ?_⟩
    by_cases h4 : j = i
    · exact .inl (.inl h4)
    · by_cases h5 : j = (i + 1) % n
      · exact .inl (.inr h5)
      · exact .inr (h3 i j hi hj h4 h5)
end Go.Proofs.YtoikcgmdlccdbaaDoor
