/- slices.Concat of the two parts of a row of points: the row rotated. -/
import Derived.Test.YtoikcgmdlccdbaaDoorCat
namespace Go.Proofs.YtoikcgmdlccdbaaDoor
set_option linter.unusedVariables false
set_option linter.unusedSimpArgs false
open Go.RowKit Wd

theorem ptsL_add (f g : Nat → Int) (a : Nat) : ∀ b, ptsL f g (a + b) = ptsL f g a ++ ptsL (fun j => f (a + j)) (fun j => g (a + j)) b
  | 0 => by simp [ptsL]
  | b + 1 => by rw [← Nat.add_assoc]; simp [ptsL, ptsL_add f g a b]
theorem ptsL_congr {f g f' g' : Nat → Int} : ∀ k, (∀ i, i < k → f i = f' i ∧ g i = g' i) → ptsL f g k = ptsL f' g' k
  | 0, _ => rfl
  | k + 1, h => by simp only [ptsL]; rw [ptsL_congr k (fun i hi => h i (by omega)), (h k (by omega)).1, (h k (by omega)).2]
theorem ptsL_rt (f g : Nat → Int) {n i : Nat} (hi : i < n) : ptsL (fun j => f (rt n i j)) (fun j => g (rt n i j)) n = ptsL (fun j => f (i + j)) (fun j => g (i + j)) (n - i) ++ ptsL f g i := by
  have h := ptsL_add (fun j => f (rt n i j)) (fun j => g (rt n i j)) (n - i) i
  rw [show n - i + i = n by omega] at h
  rw [h]
  refine congr (congrArg _ (ptsL_congr _ fun j hj => ?_)) (ptsL_congr _ fun j hj => ?_)
  · unfold rt; rw [if_pos (by omega), Nat.add_comm j i]; exact ⟨rfl, rfl⟩
  · simp only [rt]; rw [if_neg (by omega), show n - i + j + i - n = j by omega]; exact ⟨rfl, rfl⟩
theorem Pts.tail {w : World} {b off n c i : Nat} {f g : Nat → Int} (h : Pts w (Option.some ⟨b, off, none⟩) n c f g) (hi : i < n) : Pts w (Option.some ⟨b, off + i * 2, none⟩) (n - i) (c - i) (fun j => f (i + j)) (fun j => g (i + j)) :=
  ⟨by have := h.cap; omega, by have := h.max; omega, fun j hj => h.isi _ (by omega), fun _ => by
    obtain ⟨b', o', e, hlt, hc⟩ := h.at_ (by omega)
    obtain ⟨rfl, rfl⟩ : b = b' ∧ off = o' := by simpa using e
    refine ⟨b, _, rfl, hlt, fun j hj => ?_⟩
    have := hc (i + j) (by omega)
    rw [show off + (i + j) * 2 = off + i * 2 + j * 2 by omega] at this
    exact this⟩
theorem Pts.headN {w : World} {A : Option Addr} {n c i : Nat} {f g : Nat → Int} (h : Pts w A n c f g) (hi : i < n) : Pts w A i c f g :=
  ⟨by have := h.cap; omega, h.max, fun j hj => h.isi _ (by omega), fun _ => by
    obtain ⟨b', o', e, hlt, hc⟩ := h.at_ (by omega)
    exact ⟨b', o', e, hlt, fun j hj => hc j (by omega)⟩⟩
/-- slices.Concat(v[i:], v[:i]) -/
theorem concat_rt (b off n c i bb : Nat) (f g : Nat → Int) (w : World) (hn : n ≤ 1000) (hi : i < n) (hbx : Bx w bb #[.slice (some ⟨b, off + i * 2, none⟩) (n - i) (c - i), .slice (some ⟨b, off, none⟩) i c] 35) (hp : Pts w (some ⟨b, off, none⟩) n c f g) :
    Calls Tryd.prog 51 #[.slice (some ⟨bb, 0, none⟩) 2 2] w fun e w' => (∃ q : Nat × Nat, e = .returned (.slice (some ⟨q.1, 0, none⟩) n q.2) ∧ Pts w' (some ⟨q.1, 0, none⟩) n q.2 (fun j => f (rt n i j)) (fun j => g (rt n i j))) ∧ Below w.heap.size w w' := by
  refine (concat2 _ _ _ _ _ _ bb _ _ _ _ w hbx (hp.tail hi) (hp.headN hi) (by omega) (by omega)).mono ?_
  rintro e w' ⟨⟨g', c', cur, rfl, hg, hb, h1, h2, h3, h4⟩, B⟩
  rw [show n - i + i = n by omega] at h1 h4
  refine ⟨⟨(g', c'), by rw [show n - i + i = n by omega], bx_pts hb (by rw [h4, ptsL_rt f g hi]) h1 h2 fun j hj => hp.isi _ (rt_lt hi hj)⟩, B⟩
end Go.Proofs.YtoikcgmdlccdbaaDoor
