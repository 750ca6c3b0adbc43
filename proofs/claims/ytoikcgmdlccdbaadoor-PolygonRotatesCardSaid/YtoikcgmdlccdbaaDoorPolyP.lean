/- Strictly convex polygons over the integers: vertices, three consecutive vertices, middles; in plain Lean. No program's run. -/
import Derived.Test.YtoikcgmdlccdbaaDoorPoly
import Derived.Test.YtoikcgmdlccdbaaDoorPts
namespace Go.Proofs.YtoikcgmdlccdbaaDoor
set_option linter.unusedVariables false
set_option linter.unusedSimpArgs false
open Go.RowKit Wd

theorem wrapN {m : Nat} (h : m ≤ 1000) : wrap64 (m : Int) = m ∧ IntKind.i64.wrap (m : Int) = m := by
  have e : IntKind.i64.wrap (m : Int) = m := by rw [IntKind.wrap_i64]; omega
  exact ⟨by rw [← IntWalk.i64_left]; exact e, e⟩
theorem wrapN1 {m : Nat} (h : m ≤ 900) : wrap64 ((m : Int) + 1) = (m : Int) + 1 ∧ IntKind.i64.wrap ((m : Int) + 1) = (m : Int) + 1 := by
  have h := wrapN (m := m + 1) (by omega)
  rw [show ((m + 1 : Nat) : Int) = (m : Int) + 1 from by simp] at h; exact h
theorem wrapN2 {m : Nat} (h : m ≤ 900) : wrap64 ((m : Int) + 2) = (m : Int) + 2 ∧ IntKind.i64.wrap ((m : Int) + 2) = (m : Int) + 2 := by
  have h := wrapN (m := m + 2) (by omega)
  rw [show ((m + 2 : Nat) : Int) = (m : Int) + 2 from by simp] at h; exact h
theorem det_same1 (ax ay bx b_ : Int) : det ax ay bx b_ ax ay = 0 := by unfold det; grind
theorem det_same2 (ax ay bx b_ : Int) : det ax ay bx b_ bx b_ = 0 := by unfold det; grind
theorem det_turn (ax ay bx b_ cx cy : Int) : det bx b_ cx cy ax ay = det ax ay bx b_ cx cy := by unfold det; grind
theorem sg_z : sg 0 = 0 := rfl
theorem sq_one {s : Int} (h : s = -1 ∨ s = 0 ∨ s = 1) (h0 : s ≠ 0) : s * s = 1 := by
  rcases h with rfl | rfl | rfl
  · rfl
  · exact absurd rfl h0
  · rfl
/-- a vertex of a strictly convex polygon, seen from an edge -/
theorem side_vert {f g : Nat → Int} {n : Nat} (hv : validP f g n = true) {e i : Nat} (he : e < n) (hi : i < n) : sideP f g n (f i) (g i) e = if skip n e i then 0 else 1 := by
  obtain ⟨hin, h0, hall⟩ := validP_iff.1 hv
  unfold sideP skip
  by_cases h1 : i = e
  · subst h1; simp [edg, det_same1, sg_z]
  · by_cases h2 : i = (e + 1) % n
    · subst h2; simp [edg, det_same2, sg_z]
    · rw [hall e i he hi h1 h2, sq_one (ori_range f g n) h0]; simp [h1, h2]
/-- a vertex lies on the boundary -/
theorem loc_vert {f g : Nat → Int} {n : Nat} (hv : validP f g n = true) {i : Nat} (hi : i < n) : locP f g n (f i) (g i) = 0 := by
  have hin := (validP_iff.1 hv).1
  unfold locP
  rw [if_pos hin]
  rw [show anyB (fun e => decide (sideP f g n (f i) (g i) e < 0)) n = false from by
    cases h : anyB (fun e => decide (sideP f g n (f i) (g i) e < 0)) n with
    | false => rfl
    | true =>
      obtain ⟨e, he, h2⟩ := (anyB_iff _ _).1 h
      rw [side_vert hv he hi] at h2
      split at h2 <;> simp at h2,
    show anyB (fun e => decide (sideP f g n (f i) (g i) e = 0)) n = true from (anyB_iff _ _).2 ⟨i, hi, by rw [side_vert hv hi hi]; simp [skip]⟩]
  rfl
/-- three consecutive vertices turn as the polygon does -/
theorem tri_sg {f g : Nat → Int} {n : Nat} (hv : validP f g n = true) {k : Nat} (hk : k < n) : sg (det (f k) (g k) (f ((k + 1) % n)) (g ((k + 1) % n)) (f ((k + 2) % n)) (g ((k + 2) % n))) = ori f g n := by
  obtain ⟨hin, h0, hall⟩ := validP_iff.1 hv
  have h3 := hin.1
  have hm : (k + 2) % n < n := Nat.mod_lt _ (by omega)
  refine hall k ((k + 2) % n) hk hm ?_ ?_
  · rcases (by omega : k + 2 < n ∨ k + 2 = n ∨ k + 2 = n + 1) with h | h | h
    · rw [Nat.mod_eq_of_lt h]; omega
    · rw [h, Nat.mod_self]; omega
    · rw [h, Nat.add_mod_left, Nat.mod_eq_of_lt (by omega)]; omega
  · rcases (by omega : k + 2 < n ∨ k + 2 = n ∨ k + 2 = n + 1) with h | h | h
    · rw [Nat.mod_eq_of_lt h, Nat.mod_eq_of_lt (by omega)]; omega
    · rw [h, Nat.mod_self, Nat.mod_eq_of_lt (by omega)]; omega
    · rw [h, Nat.add_mod_left, Nat.mod_eq_of_lt (by omega), show k + 1 = n by omega, Nat.mod_self]; omega
theorem ori_tri (ax ay bx b_ cx cy : Int) : ori (sel3 ax bx cx) (sel3 ay b_ cy) 3 = sg (det ax ay bx b_ cx cy) := by
  unfold ori; rw [if_pos (by decide)]; rfl
theorem valid_tri {ax ay bx b_ cx cy : Int} (h : sg (det ax ay bx b_ cx cy) ≠ 0) : validP (sel3 ax bx cx) (sel3 ay b_ cy) 3 = true := by
  refine validP_iff.2 ⟨by decide, by rw [ori_tri]; exact h, fun i j hi hj h1 h2 => ?_⟩
  rw [ori_tri]
  match i, hi with
  | 0, _ =>
    obtain rfl : j = 2 := by simp at h2; omega
    rfl
  | 1, _ =>
    obtain rfl : j = 0 := by simp at h2; omega
    show sg (det bx b_ cx cy ax ay) = _
    rw [det_turn]
  | 2, _ =>
    obtain rfl : j = 1 := by simp at h2; omega
    show sg (det cx cy ax ay bx b_) = _
    rw [← det_turn ax ay bx b_ cx cy, ← det_turn bx b_ cx cy ax ay]
theorem sg_cases (x : Int) : (x < 0 ∧ sg x = -1) ∨ (x = 0 ∧ sg x = 0) ∨ (0 < x ∧ sg x = 1) := by
  unfold sg
  rcases (by omega : x < 0 ∨ x = 0 ∨ 0 < x) with h | h | h
  · exact .inl ⟨h, Int.sign_eq_neg_one_of_neg h⟩
  · exact .inr (.inl ⟨h, by rw [h]; rfl⟩)
  · exact .inr (.inr ⟨h, Int.sign_eq_one_of_pos h⟩)
theorem det_mid (ax ay bx b_ x0 y0 x1 y1 : Int) : 2 * det ax ay bx b_ (x0 + x1) (y0 + y1) = det ax ay bx b_ (2 * x0) (2 * y0) + det ax ay bx b_ (2 * x1) (2 * y1) := by unfold det; grind
theorem sg_half {s A B M a b : Int} (hs : s = -1 ∨ s = 0 ∨ s = 1) (h0 : s ≠ 0) (hm : 2 * M = A + B) (ha : s * sg A = a) (hb : s * sg B = b) (ha2 : a = 0 ∨ a = 1) (hb2 : b = 0 ∨ b = 1) : s * sg M = if a = 0 ∧ b = 0 then 0 else 1 := by
  rcases sg_cases A with ⟨h1, e1⟩ | ⟨h1, e1⟩ | ⟨h1, e1⟩ <;> rcases sg_cases B with ⟨h2, e2⟩ | ⟨h2, e2⟩ | ⟨h2, e2⟩ <;> rcases sg_cases M with ⟨h3, e3⟩ | ⟨h3, e3⟩ | ⟨h3, e3⟩ <;> rcases hs with rfl | rfl | rfl <;> rw [e1] at ha <;> rw [e2] at hb <;> rw [e3] <;> subst ha <;> subst hb <;> first | (exfalso; omega) | rfl | simp
/-- the middle of two vertices, seen from an edge -/
theorem side_mid {p q : Nat → Int} {n : Nat} (hv : validP (fun i => 2 * p i) (fun i => 2 * q i) n = true) {e i j : Nat} (he : e < n) (hi : i < n) (hj : j < n) : sideP (fun i => 2 * p i) (fun i => 2 * q i) n (p i + p j) (q i + q j) e = if skip n e i = true ∧ skip n e j = true then 0 else 1 := by
  obtain ⟨hin, h0, hall⟩ := validP_iff.1 hv
  have h1 := side_vert hv he hi
  have h2 := side_vert hv he hj
  have hr := ori_range (fun i => 2 * p i) (fun i => 2 * q i) n
  unfold sideP at *
  have hm := det_mid (2 * p e) (2 * q e) (2 * p ((e + 1) % n)) (2 * q ((e + 1) % n)) (p i) (q i) (p j) (q j)
  have := sg_half hr h0 (A := edg (fun i => 2 * p i) (fun i => 2 * q i) n e (2 * p i) (2 * q i)) (B := edg (fun i => 2 * p i) (fun i => 2 * q i) n e (2 * p j) (2 * q j)) (M := edg (fun i => 2 * p i) (fun i => 2 * q i) n e (p i + p j) (q i + q j)) hm h1 h2 (by cases skip n e i <;> simp) (by cases skip n e j <;> simp)
  rw [this]
  cases skip n e i <;> cases skip n e j <;> rfl
/-- two vertices are neighbours -/
def nbr (n i j : Nat) : Bool := decide (i = j + 1) || (decide (j = 0) && decide (i = n - 1))
theorem loc_mid {p q : Nat → Int} {n : Nat} (hv : validP (fun i => 2 * p i) (fun i => 2 * q i) n = true) {i j : Nat} (hi : i < n) (hj : j < i) : locP (fun i => 2 * p i) (fun i => 2 * q i) n (p i + p j) (q i + q j) = if nbr n i j then 0 else 1 := by
  have hin := (validP_iff.1 hv).1
  have hjn : j < n := by omega
  unfold locP
  rw [if_pos hin]
  rw [show anyB (fun e => decide (sideP (fun i => 2 * p i) (fun i => 2 * q i) n (p i + p j) (q i + q j) e < 0)) n = false from by
    cases h : anyB (fun e => decide (sideP (fun i => 2 * p i) (fun i => 2 * q i) n (p i + p j) (q i + q j) e < 0)) n with
    | false => rfl
    | true =>
      obtain ⟨e, he, h2⟩ := (anyB_iff _ _).1 h
      rw [side_mid hv he hi hjn] at h2
      split at h2 <;> simp at h2]
  rw [show anyB (fun e => decide (sideP (fun i => 2 * p i) (fun i => 2 * q i) n (p i + p j) (q i + q j) e = 0)) n = nbr n i j from by
    rw [Bool.eq_iff_iff, anyB_iff]
    constructor
    · rintro ⟨e, he, h2⟩
      rw [side_mid hv he hi hjn] at h2
      split at h2
      · rename_i h
        simp only [skip, Bool.or_eq_true, decide_eq_true_eq] at h
        unfold nbr
        simp only [Bool.or_eq_true, Bool.and_eq_true, decide_eq_true_eq]
        obtain ⟨h3 | h3, h4 | h4⟩ := h
        · omega
        · subst h3
          by_cases h5 : i + 1 < n
          · rw [Nat.mod_eq_of_lt h5] at h4; omega
          · rw [show i + 1 = n by omega, Nat.mod_self] at h4; omega
        · subst h4
          rw [Nat.mod_eq_of_lt (by omega)] at h3; omega
        · omega
      · simp at h2
    · intro h
      unfold nbr at h
      simp only [Bool.or_eq_true, Bool.and_eq_true, decide_eq_true_eq] at h
      rcases h with h | ⟨h, h'⟩
      · refine ⟨j, hjn, ?_⟩
        rw [side_mid hv hjn hi hjn, if_pos ⟨by simp [skip, Nat.mod_eq_of_lt (show j + 1 < n by omega), h], by simp [skip]⟩]; rfl
      · refine ⟨i, hi, ?_⟩
        rw [side_mid hv hi hi hjn, if_pos ⟨by simp [skip], by simp [skip, show i + 1 = n by omega, h]⟩]; rfl]
  cases nbr n i j <;> rfl
end Go.Proofs.YtoikcgmdlccdbaaDoor
