/- How arguments of fixed shape are opened: arrays of words. Plain readings of values; no program's run. -/
import Derived.WalkKit
import Derived.ProofKit
import Derived.OpenShut
import Derived.Lib.SmallJoins
namespace Go.Proofs.YtoikcgmdlccdbaaDoor
set_option linter.unusedVariables false
namespace Op
open Go.ChangeShapes Go.WideShapes Go.ChangeAt Go.RowKit

variable {H : Type} {enc : TypeId × Value → H} {P : Program} {w : World} {base : Nat} {spare : Nat → Bool} {held : Bool}

theorem agg_of_len {v : Value} (h : 2 ≤ v.cells.toList.length) : ∃ cs : Array Value, v = .agg cs ∧ v.cells = cs := by
  cases v <;> simp [Value.cells] at h ⊢

theorem list2 {α : Type} {l : List α} (h : l.length = 2) : ∃ a b, l = [a, b] := by
  match l, h with
  | [a, b], _ => exact ⟨a, b, rfl⟩
theorem list3 {α : Type} {l : List α} (h : l.length = 3) : ∃ a b c, l = [a, b, c] := by
  match l, h with
  | [a, b, c], _ => exact ⟨a, b, c, rfl⟩
theorem list4 {α : Type} {l : List α} (h : l.length = 4) : ∃ a b c d, l = [a, b, c, d] := by
  match l, h with
  | [a, b, c, d], _ => exact ⟨a, b, c, d, rfl⟩
theorem list6 {α : Type} {l : List α} (h : l.length = 6) : ∃ a b c d e f, l = [a, b, c, d, e, f] := by
  match l, h with
  | [a, b, c, d, e, f], _ => exact ⟨a, b, c, d, e, f, rfl⟩

/-- the cells of an array whose elements have one cell each -/
theorem arr_at {t e : TypeId} {n fuel : Nat} {cs : List Value} {x : DataW H × List MemPlace} (ht : P.underlying t = some (.array n e)) (hc : P.cellsOf e = 1) (h : DataW.trod enc P w base spare held fuel t cs = some x) (hl : cs.length = n) :
    ∃ m, ∀ i, i < n → ∃ y u, cs[i]? = some u ∧ DataW.trod enc P w base spare held m e [u] = some y := by
  obtain ⟨xs, m, _, _, _, hlen, hg⟩ := DataW.trod_array ht h
  refine ⟨m, fun i hi => ?_⟩
  have h1 := hg i hi
  have hlt : i < cs.length := by omega
  rw [hc, Nat.mul_one, List.drop_eq_getElem_cons hlt] at h1
  simp only [List.take_succ_cons, List.take_zero] at h1
  have h2 : xs[i]? = some (xs[i]'(by omega)) := List.getElem?_eq_getElem (by omega)
  exact ⟨_, cs[i], List.getElem?_eq_getElem hlt, h1.trans h2⟩

/-- an array of two integers of one kind -/
theorem open_two {t e : TypeId} {k : IntKind} {v : Value} {d : DataW H} {p : List MemPlace} (ht : P.underlying t = some (.array 2 e)) (he : P.underlying e = some (.int k)) (hc : P.cellsOf e = 1) (hC : P.cellsOf t = 2)
    (h : DataW.Trod enc P w base spare held t v d p) : ∃ a b : Int, v = .agg #[.int k a, .int k b] ∧ (Lit.int k a).wf = true ∧ (Lit.int k b).wf = true := by
  obtain ⟨fuel, hf⟩ := h
  have hlen : v.cells.toList.length = 2 := by obtain ⟨xs, m, _, _, hl, _⟩ := DataW.trod_array ht hf; omega
  obtain ⟨m, hat⟩ := arr_at ht hc hf hlen
  obtain ⟨cs, rfl, hcs⟩ := agg_of_len (v := v) (by omega)
  rw [hcs] at hlen hat
  obtain ⟨l⟩ := cs
  obtain ⟨u0, u1, rfl⟩ := list2 hlen
  obtain ⟨y0, a0, ha0, hy0⟩ := hat 0 (by omega)
  obtain ⟨y1, a1, ha1, hy1⟩ := hat 1 (by omega)
  simp at ha0 ha1
  subst ha0 ha1
  obtain ⟨a, ea, _, wa⟩ := DataW.trod_int he hy0
  obtain ⟨b, eb, _, wb⟩ := DataW.trod_int he hy1
  simp at ea eb
  subst ea eb
  exact ⟨a, b, rfl, wa, wb⟩
end Op
end Go.Proofs.YtoikcgmdlccdbaaDoor
