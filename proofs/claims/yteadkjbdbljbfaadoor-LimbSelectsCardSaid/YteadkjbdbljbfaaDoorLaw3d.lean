/- A row of the call's own that is kept while other calls run, and that is changed in a loop. -/
import Derived.Test.YteadkjbdbljbfaaDoorLaw3b
namespace Go.Proofs.YteadkjbdbljbfaaDoor
set_option linter.unusedVariables false
set_option linter.unusedSimpArgs false
open Go.RowKit Wd

/-- block q holds the words f 0 .. f (n-1), the call's own -/
def Ow (w : World) (base q n : Nat) (f : Nat → Int) : Prop := w.ownsRow base 38 1 (.slice (some ⟨q, 0, none⟩) n n) n (row .u64 f n)
theorem Ow.mk_ {w : World} {base base' q n : Nat} {f : Nat → Int} (h : w.ownsRow base' 38 1 (.slice (some ⟨q, 0, none⟩) n n) n (row .u64 f n)) (hb : base ≤ base') : Ow w base q n f := World.ownsRow_le h hb
theorem Ow.lt {w : World} {base q n : Nat} {f : Nat → Int} (h : Ow w base q n f) : q < w.heap.size := (World.ownsRow.lt h q rfl).2
theorem Ow.ge {w : World} {base q n : Nat} {f : Nat → Int} (h : Ow w base q n f) : base ≤ q := (World.ownsRow.lt h q rfl).1
theorem Ow.below {w w' : World} {base q n B : Nat} {f : Nat → Int} (h : Ow w base q n f) (hb : Below B w w') (hB : w.heap.size ≤ B) : Ow w' base q n f := by
  have hlt := h.lt
  obtain ⟨h1, h2⟩ := h
  refine ⟨h1, ?_⟩
  rcases h2 with h2 | ⟨g, cap, cur, hv, hg, hh, r⟩
  · exact .inl h2
  · refine .inr ⟨g, cap, cur, hv, hg, ?_, r⟩
    simp at hv
    obtain ⟨rfl, rfl⟩ := hv
    exact (hb.block _ (by omega)).trans hh
theorem Ow.alloc {w : World} {base q n : Nat} {f : Nat → Int} (h : Ow w base q n f) (o : Obj) : Ow (w.alloc o) base q n f := World.ownsRow.alloc h o
theorem Ow.sl {w : World} {base q n : Nat} {f : Nat → Int} (h : Ow w base q n f) : Sl w .u64 (some ⟨q, 0, none⟩) n n f := by
  obtain ⟨A, c, hv, hs⟩ := Sl.of_own h
  injection hv with e1 e2 e3
  subst e1 e3
  exact hs
/-- block q holds words, the call's own -/
def OwAny (w : World) (base q n : Nat) : Prop := ∃ f, Ow w base q n f ∧ ∀ i, i < n → IsW (f i)
theorem Ow.to_any {w : World} {base q n : Nat} {f : Nat → Int} (hf : ∀ i, i < n → IsW (f i)) (h : Ow w base q n f) : OwAny w base q n := ⟨f, h, hf⟩
theorem isW_wrap (x : Int) : IsW (IntKind.u64.wrap x) := by rw [wrapU]; exact isW_lo x
theorem isW_selI {m : Bool} {a b : Int} (ha : IsW a) (hb : IsW b) : IsW (selI m a b) := by unfold selI; cases m; exact hb; exact ha
theorem OwAny.store {w : World} {base q n k : Nat} {h : Nat → Int} {y : Int} (ho : Ow w base q n h) (hw : ∀ i, i < n → IsW (h i)) (hk : k < n) (hy : IsW y) : OwAny (w.setCell ⟨q, k, none⟩ (.int .u64 y)) base q n :=
  ⟨fun i => if i = k then y else h i, own_set ho (by simp) (fun i _ hne => by simp [hne]), fun i hi => by
    by_cases e : i = k
    · simp [e]; exact hy
    · simp [e]; exact hw i hi⟩
end Go.Proofs.YteadkjbdbljbfaaDoor
