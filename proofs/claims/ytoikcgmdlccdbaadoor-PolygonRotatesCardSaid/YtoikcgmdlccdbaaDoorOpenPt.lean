/- How arguments are opened that are points, arrays of points, vectors of slices. Plain readings of values; no program's run. -/
import Derived.Test.YtoikcgmdlccdbaaDoorOpenSl
import Derived.Test.YtoikcgmdlccdbaaDoorOpen
import Derived.Lib.SmallJoins
namespace Go.Proofs.YtoikcgmdlccdbaaDoor
set_option linter.unusedVariables false
namespace Op
open Go.ChangeShapes Go.WideShapes Go.ChangeAt Go.RowKit Wd

variable {H : Type} {enc : TypeId × Value → H} {P : Program} {w : World} {base : Nat} {spare : Nat → Bool} {held : Bool}

/-- a struct of two integers of one kind -/
theorem open_pt {t e : TypeId} {f0 f1 : Field} {k : IntKind} {v : Value} {d : DataW H} {p : List MemPlace} (hs : P.underlying t = some (.struct #[f0, f1])) (h0 : f0.type = e) (h1 : f1.type = e) (o0 : f0.offset = 0) (o1 : f1.offset = 1) (he : P.underlying e = some (.int k)) (hc : P.cellsOf e = 1) (hC : P.cellsOf t = 2)
    (h : DataW.Trod enc P w base spare held t v d p) : ∃ a b : Int, v = .agg #[.int k a, .int k b] ∧ (Lit.int k a).wf = true ∧ (Lit.int k b).wf = true := by
  obtain ⟨fuel, hf⟩ := h
  obtain ⟨y0, y1, n, hx, hl, q0, q1⟩ := trod_struct2 hs hf
  rw [hC] at hl
  obtain ⟨cs, rfl, hcs⟩ := agg_of_len (v := v) (by omega)
  rw [hcs] at hl q0 q1
  obtain ⟨l⟩ := cs
  obtain ⟨u0, u1, rfl⟩ := list2 hl
  rw [h0, o0, hc] at q0
  rw [h1, o1, hc] at q1
  obtain ⟨a, ea, _, wa⟩ := DataW.trod_int he q0
  obtain ⟨b, eb, _, wb⟩ := DataW.trod_int he q1
  simp at ea eb
  subst ea eb
  exact ⟨a, b, rfl, wa, wb⟩

/-- an array of structs of two integers: all its cells are integers -/
theorem pts_at {t s e : TypeId} {f0 f1 : Field} {k : IntKind} {n fuel : Nat} {cs : List Value} {x : DataW H × List MemPlace} (ht : P.underlying t = some (.array n s)) (hs : P.underlying s = some (.struct #[f0, f1])) (h0 : f0.type = e) (h1 : f1.type = e) (o0 : f0.offset = 0) (o1 : f1.offset = 1) (he : P.underlying e = some (.int k)) (hc : P.cellsOf e = 1) (hC : P.cellsOf s = 2)
    (h : DataW.trod enc P w base spare held fuel t cs = some x) (hl : cs.length = n * 2) :
    ∀ i, i < n → ∃ a b : Int, cs[i * 2]? = some (.int k a) ∧ cs[i * 2 + 1]? = some (.int k b) ∧ (Lit.int k a).wf = true ∧ (Lit.int k b).wf = true := by
  obtain ⟨xs, m, _, _, _, hlen, hg⟩ := DataW.trod_array ht h
  intro i hi
  have hq := hg i hi
  have h2 : xs[i]? = some (xs[i]'(by omega)) := List.getElem?_eq_getElem (by omega)
  rw [h2, hC] at hq
  obtain ⟨y0, y1, n', hx, hl2, q0, q1⟩ := trod_struct2 hs hq
  rw [h0, o0, hc, List.drop_zero] at q0
  rw [h1, o1, hc] at q1
  have l0 : i * 2 < cs.length := by omega
  have l1 : i * 2 + 1 < cs.length := by omega
  rw [List.drop_eq_getElem_cons l0, List.drop_eq_getElem_cons l1] at q0 q1
  simp only [List.take_succ_cons, List.take_zero, List.drop_succ_cons, List.drop_zero] at q0 q1
  obtain ⟨a, ea, _, wa⟩ := DataW.trod_int he q0
  obtain ⟨b, eb, _, wb⟩ := DataW.trod_int he q1
  simp at ea eb
  exact ⟨a, b, by rw [List.getElem?_eq_getElem l0, ea], by rw [List.getElem?_eq_getElem l1, eb], wa, wb⟩

theorem open_pts2 {t s e : TypeId} {f0 f1 : Field} {k : IntKind} {v : Value} {d : DataW H} {p : List MemPlace} (ht : P.underlying t = some (.array 2 s)) (hs : P.underlying s = some (.struct #[f0, f1])) (h0 : f0.type = e) (h1 : f1.type = e) (o0 : f0.offset = 0) (o1 : f1.offset = 1) (he : P.underlying e = some (.int k)) (hc : P.cellsOf e = 1) (hC : P.cellsOf s = 2) (hCt : P.cellsOf t = 4)
    (h : DataW.Trod enc P w base spare held t v d p) : ∃ a b c d : Int, v = .agg #[.int k a, .int k b, .int k c, .int k d] ∧ (Lit.int k a).wf = true ∧ (Lit.int k b).wf = true ∧ (Lit.int k c).wf = true ∧ (Lit.int k d).wf = true := by
  obtain ⟨fuel, hf⟩ := h
  have hl : v.cells.toList.length = 4 := by obtain ⟨xs, m, _, _, hl, _⟩ := DataW.trod_array ht hf; omega
  have hat := pts_at ht hs h0 h1 o0 o1 he hc hC hf hl
  obtain ⟨cs, rfl, hcs⟩ := agg_of_len (v := v) (by omega)
  rw [hcs] at hl hat
  obtain ⟨l⟩ := cs
  obtain ⟨u0, u1, u2, u3, rfl⟩ := list4 hl
  obtain ⟨a, b, ea, eb, wa, wb⟩ := hat 0 (by omega)
  obtain ⟨c, d, ec, ed, wc, wd⟩ := hat 1 (by omega)
  simp at ea eb ec ed
  subst ea eb ec ed
  exact ⟨a, b, c, d, rfl, wa, wb, wc, wd⟩
theorem open_pts3 {t s e : TypeId} {f0 f1 : Field} {k : IntKind} {v : Value} {d : DataW H} {p : List MemPlace} (ht : P.underlying t = some (.array 3 s)) (hs : P.underlying s = some (.struct #[f0, f1])) (h0 : f0.type = e) (h1 : f1.type = e) (o0 : f0.offset = 0) (o1 : f1.offset = 1) (he : P.underlying e = some (.int k)) (hc : P.cellsOf e = 1) (hC : P.cellsOf s = 2) (hCt : P.cellsOf t = 6)
    (h : DataW.Trod enc P w base spare held t v d p) : ∃ a b c d x y : Int, v = .agg #[.int k a, .int k b, .int k c, .int k d, .int k x, .int k y] ∧ (Lit.int k a).wf = true ∧ (Lit.int k b).wf = true ∧ (Lit.int k c).wf = true ∧ (Lit.int k d).wf = true ∧ (Lit.int k x).wf = true ∧ (Lit.int k y).wf = true := by
  obtain ⟨fuel, hf⟩ := h
  have hl : v.cells.toList.length = 6 := by obtain ⟨xs, m, _, _, hl, _⟩ := DataW.trod_array ht hf; omega
  have hat := pts_at ht hs h0 h1 o0 o1 he hc hC hf hl
  obtain ⟨cs, rfl, hcs⟩ := agg_of_len (v := v) (by omega)
  rw [hcs] at hl hat
  obtain ⟨l⟩ := cs
  obtain ⟨u0, u1, u2, u3, u4, u5, rfl⟩ := list6 hl
  obtain ⟨a, b, ea, eb, wa, wb⟩ := hat 0 (by omega)
  obtain ⟨c, d, ec, ed, wc, wd⟩ := hat 1 (by omega)
  obtain ⟨x, y, ex, ey, wx, wy⟩ := hat 2 (by omega)
  simp at ea eb ec ed ex ey
  subst ea eb ec ed ex ey
  exact ⟨a, b, c, d, x, y, rfl, wa, wb, wc, wd, wx, wy⟩
theorem list8 {α : Type} {l : List α} (h : l.length = 8) : ∃ a b c d e f g i, l = [a, b, c, d, e, f, g, i] := by
  match l, h with
  | [a, b, c, d, e, f, g, i], _ => exact ⟨a, b, c, d, e, f, g, i, rfl⟩
theorem open_pts4 {t s e : TypeId} {f0 f1 : Field} {k : IntKind} {v : Value} {d : DataW H} {p : List MemPlace} (ht : P.underlying t = some (.array 4 s)) (hs : P.underlying s = some (.struct #[f0, f1])) (h0 : f0.type = e) (h1 : f1.type = e) (o0 : f0.offset = 0) (o1 : f1.offset = 1) (he : P.underlying e = some (.int k)) (hc : P.cellsOf e = 1) (hC : P.cellsOf s = 2) (hCt : P.cellsOf t = 8)
    (h : DataW.Trod enc P w base spare held t v d p) : ∃ a b c d x y z u : Int, v = .agg #[.int k a, .int k b, .int k c, .int k d, .int k x, .int k y, .int k z, .int k u] ∧ (Lit.int k a).wf = true ∧ (Lit.int k b).wf = true ∧ (Lit.int k c).wf = true ∧ (Lit.int k d).wf = true ∧ (Lit.int k x).wf = true ∧ (Lit.int k y).wf = true ∧ (Lit.int k z).wf = true ∧ (Lit.int k u).wf = true := by
  obtain ⟨fuel, hf⟩ := h
  have hl : v.cells.toList.length = 8 := by obtain ⟨xs, m, _, _, hl, _⟩ := DataW.trod_array ht hf; omega
  have hat := pts_at ht hs h0 h1 o0 o1 he hc hC hf hl
  obtain ⟨cs, rfl, hcs⟩ := agg_of_len (v := v) (by omega)
  rw [hcs] at hl hat
  obtain ⟨l⟩ := cs
  obtain ⟨u0, u1, u2, u3, u4, u5, u6, u7, rfl⟩ := list8 hl
  obtain ⟨a, b, ea, eb, wa, wb⟩ := hat 0 (by omega)
  obtain ⟨c, d, ec, ed, wc, wd⟩ := hat 1 (by omega)
  obtain ⟨x, y, ex, ey, wx, wy⟩ := hat 2 (by omega)
  obtain ⟨z, u, ez, eu, wz, wu⟩ := hat 3 (by omega)
  simp at ea eb ec ed ex ey ez eu
  subst ea eb ec ed ex ey ez eu
  exact ⟨a, b, c, d, x, y, z, u, rfl, wa, wb, wc, wd, wx, wy, wz, wu⟩

/-- a struct of two slices of words -/
theorem open_vec {t e g : TypeId} {f0 f1 : Field} {v : Value} {d : DataW H} {p : List MemPlace} (hs : P.underlying t = some (.struct #[f0, f1])) (h0 : f0.type = e) (h1 : f1.type = e) (o0 : f0.offset = 0) (o1 : f1.offset = 1) (he : P.underlying e = some (.slice g)) (hg : P.underlying g = some (.int .u64)) (hc : P.cellsOf e = 1) (hcg : P.cellsOf g = 1) (hC : P.cellsOf t = 2)
    (h : DataW.Trod enc P w base spare held t v d p) : ∃ (A : Option Addr) (n c : Nat) (x : Int) (A' : Option Addr) (n' c' : Nat) (x' : Int), v = .agg #[.slice A n c, .slice A' n' c'] ∧ Wd.Fit n x ∧ Sl w .u64 A n c (Wd.lmb x) ∧ Wd.Fit n' x' ∧ Sl w .u64 A' n' c' (Wd.lmb x') := by
  obtain ⟨fuel, hf⟩ := h
  obtain ⟨y0, y1, n, hx, hl, q0, q1⟩ := trod_struct2 hs hf
  rw [hC] at hl
  obtain ⟨cs, rfl, hcs⟩ := agg_of_len (v := v) (by omega)
  rw [hcs] at hl q0 q1
  obtain ⟨l⟩ := cs
  obtain ⟨u0, u1, rfl⟩ := list2 hl
  rw [h0, o0, hc] at q0
  rw [h1, o1, hc] at q1
  have one : ∀ (u : Value) (y : DataW H × List MemPlace), DataW.trod enc P w base spare held n e [u] = some y → ∃ A n c, u = .slice A n c := by
    intro u y hq
    rcases Go.Deep.open_slice1 he hcg hq with ⟨hcs, _⟩ | ⟨a, len, cap, m, n', V, D, Pl, hcs, _⟩
    · simp at hcs; exact ⟨_, _, _, hcs⟩
    · simp at hcs; exact ⟨_, _, _, hcs⟩
  simp at q0 q1
  obtain ⟨A, m, c, rfl⟩ := one _ _ q0
  obtain ⟨A', m', c', rfl⟩ := one _ _ q1
  obtain ⟨x, hx1, hx2⟩ := open_words (w := w) he hg hcg (d := y0.1) (p := y0.2) ⟨n, q0⟩
  obtain ⟨x', hx3, hx4⟩ := open_words (w := w) he hg hcg (d := y1.1) (p := y1.2) ⟨n, q1⟩
  exact ⟨A, m, c, x, A', m', c', x', rfl, hx1, hx2, hx3, hx4⟩
end Op
end Go.Proofs.YtoikcgmdlccdbaaDoor
