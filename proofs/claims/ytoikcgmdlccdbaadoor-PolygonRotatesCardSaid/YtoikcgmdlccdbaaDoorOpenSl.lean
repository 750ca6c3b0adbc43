/- How an argument that is a slice of words is opened: it holds the limbs of an integer. Plain readings of values; no program's run. -/
import Derived.Test.YtoikcgmdlccdbaaDoorLimbMath
import Derived.Test.YtoikcgmdlccdbaaDoorMem
import Derived.ProofKit
import Derived.OpenShut
import Derived.Deep.Slices
namespace Go.Proofs.YtoikcgmdlccdbaaDoor
set_option linter.unusedVariables false
namespace Op
open Go.ChangeShapes Go.WideShapes Go.ChangeAt Go.RowKit Wd

variable {H : Type} {enc : TypeId × Value → H} {P : Program} {w : World} {base : Nat} {spare : Nat → Bool} {held : Bool}

theorem spotless {w : World} {b o : Nat} {sp : Option Nat} {v : Value} (h : w.cell? ⟨b, o, sp⟩ = some v) : sp = none ∧ b < w.heap.size := by
  unfold World.cell? at h
  cases hh : w.heap[b]? with
  | none => simp [hh] at h
  | some o =>
    have hlt : b < w.heap.size := by
      rcases Nat.lt_or_ge b w.heap.size with h1 | h1
      · exact h1
      · rw [Array.getElem?_eq_none h1] at hh; cases hh
    refine ⟨?_, hlt⟩
    cases sp with
    | none => rfl
    | some s => cases o <;> simp [hh] at h

/-- a slice of words holds an integer's limbs -/
theorem open_words {t e : TypeId} {A : Option Addr} {n c : Nat} {d : DataW H} {p : List MemPlace} (ht : P.underlying t = some (.slice e)) (he : P.underlying e = some (.int .u64)) (hc : P.cellsOf e = 1)
    (h : DataW.Trod enc P w base spare held t (.slice A n c) d p) : ∃ x : Int, Wd.Fit n x ∧ Sl w .u64 A n c (Wd.lmb x) := by
  obtain ⟨fuel, hf⟩ := h
  rcases Go.Deep.open_slice1 ht hc hf with ⟨hcs, _⟩ | ⟨a, len, cap, m, n', V, D, Pl, hcs, _, hl, hm, hmm, _, hx⟩
  · have e0 : Value.slice A n c = .slice none 0 0 := by simpa [Value.cells] using hcs
    injection e0 with e1 e2 e3
    subst e1 e2 e3
    exact ⟨0, by unfold Wd.Fit; rw [Wd.S_zero]; omega, Sl.none_⟩
  · have e0 : Value.slice A n c = .slice (some a) len cap := by simpa [Value.cells] using hcs
    injection e0 with e1 e2 e3
    subst e1 e2 e3
    have hmn : n ≤ m := by rw [hmm]; split <;> omega
    have hV : ∀ i, i < n → ∃ y : Int, V i = .int .u64 y ∧ IsW y := fun i hi => by
      obtain ⟨y, e2, _, wy⟩ := DataW.trod_int he (hx i (by omega)).2
      simp at e2
      exact ⟨y, e2, isW_of_wf wy⟩
    obtain ⟨x, hfx, hxl⟩ := Wd.lmb_exists (fun i => match V i with | .int _ y => y | _ => 0) n (fun i hi => by
      obtain ⟨y, e2, wy⟩ := hV i hi
      simp only [e2]; exact wy)
    refine ⟨x, hfx, hl, hm, fun h0 => ?_⟩
    have hc0 := (hx 0 (by omega)).1
    obtain ⟨b, off, sp⟩ := a
    have h0' : w.cell? ⟨b, off, sp⟩ = some (V 0) := by simpa [Addr.add] using hc0
    obtain ⟨rfl, hlt⟩ := spotless h0'
    refine ⟨b, off, rfl, hlt, fun i hi => ?_⟩
    obtain ⟨y, e2, wy⟩ := hV i hi
    have h1 := (hx i (by omega)).1
    have h2 : w.cell? ⟨b, off + i, none⟩ = some (V i) := by
      by_cases hi0 : i = 0
      · subst hi0; exact h0'
      · simpa [Addr.add, hi0] using h1
    rw [h2, hxl i hi, e2]
end Op
end Go.Proofs.YtoikcgmdlccdbaaDoor
