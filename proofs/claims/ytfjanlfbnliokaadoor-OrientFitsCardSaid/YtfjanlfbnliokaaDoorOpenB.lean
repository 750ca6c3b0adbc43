/- How an argument that is an array of six bools is opened; the top limb of a determinant. Plain readings; no program's run. -/
import Derived.Test.YtfjanlfbnliokaaDoorOpenPt
import Derived.Test.YtfjanlfbnliokaaDoorGeo
import Derived.Test.YtfjanlfbnliokaaDoorBox
import Derived.ChangeArms
namespace Go.Proofs.YtfjanlfbnliokaaDoor
set_option linter.unusedVariables false
namespace Op
open Go.ChangeShapes Go.WideShapes Go.ChangeAt Go.RowKit Wd
variable {H : Type} {enc : TypeId × Value → H} {P : Program} {w : World} {base : Nat} {spare : Nat → Bool} {held : Bool}
theorem open_six {t e : TypeId} {v : Value} {d : DataW H} {p : List MemPlace} (ht : P.underlying t = some (.array 6 e)) (he : P.underlying e = some .bool) (hc : P.cellsOf e = 1) (hC : P.cellsOf t = 6)
    (h : DataW.Trod enc P w base spare held t v d p) : ∃ a b c d e f : Bool, v = .agg #[.bool a, .bool b, .bool c, .bool d, .bool e, .bool f] := by
  obtain ⟨fuel, hf⟩ := h
  have hlen : v.cells.toList.length = 6 := by obtain ⟨xs, m, _, _, hl, _⟩ := DataW.trod_array ht hf; omega
  obtain ⟨m, hat⟩ := arr_at ht hc hf hlen
  obtain ⟨cs, rfl, hcs⟩ := agg_of_len (v := v) (by omega)
  rw [hcs] at hlen hat
  obtain ⟨l⟩ := cs
  obtain ⟨u0, u1, u2, u3, u4, u5, rfl⟩ := list6 hlen
  have one : ∀ i, i < 6 → ∀ u, [u0, u1, u2, u3, u4, u5][i]? = some u → ∃ b, u = .bool b := by
    intro i hi u hu
    obtain ⟨y, a, ha, hy⟩ := hat i hi
    rw [show ({ toList := [u0, u1, u2, u3, u4, u5] } : Array Value).toList = [u0, u1, u2, u3, u4, u5] from rfl, hu] at ha
    obtain rfl := Option.some.inj ha
    obtain ⟨b, eb, _⟩ := DataW.trod_bool he hy
    simp at eb
    exact ⟨b, eb⟩
  obtain ⟨b0, rfl⟩ := one 0 (by omega) _ rfl
  obtain ⟨b1, rfl⟩ := one 1 (by omega) _ rfl
  obtain ⟨b2, rfl⟩ := one 2 (by omega) _ rfl
  obtain ⟨b3, rfl⟩ := one 3 (by omega) _ rfl
  obtain ⟨b4, rfl⟩ := one 4 (by omega) _ rfl
  obtain ⟨b5, rfl⟩ := one 5 (by omega) _ rfl
  exact ⟨b0, b1, b2, b3, b4, b5, rfl⟩
end Op
open Go.RowKit Wd
/-- block b holds six signed words -/
def SixI (w : World) (b : Nat) (t : TypeId) : Prop := ∃ l0 l1 l2 l3 l4 l5 : Int, IsI l0 ∧ IsI l1 ∧ IsI l2 ∧ IsI l3 ∧ IsI l4 ∧ IsI l5 ∧ Bx w b #[.int .i64 l0, .int .i64 l1, .int .i64 l2, .int .i64 l3, .int .i64 l4, .int .i64 l5] t
theorem top_small {x : Int} (h : -680564733841876926852962238568698216450 ≤ x ∧ x ≤ 680564733841876926852962238568698216450) : IntKind.u64.wrap (lmb x 2 + 8) / 16 = 0 := by
  rw [IntKind.wrap_u64]
  unfold lmb qt
  rw [show S 2 = 340282366920938463463374607431768211456 from rfl]
  omega
theorem sl_cell {w : World} {k : IntKind} {A : Option Addr} {n c : Nat} {f : Nat → Int} (h : Sl w k A n c f) {i : Nat} (hi : i < n) : ∃ b off, A = some ⟨b, off, none⟩ ∧ w.cell? ⟨b, off + i, none⟩ = some (.int k (f i)) := by
  obtain ⟨b, off, e, _, hc⟩ := h.at_ (by omega)
  exact ⟨b, off, e, hc i hi⟩
theorem sl_at {w : World} {k : IntKind} {b off n c : Nat} {f : Nat → Int} (h : Sl w k (some ⟨b, off, none⟩) n c f) {i : Nat} (hi : i < n) : w.cell? ⟨b, off + i, none⟩ = some (.int k (f i)) := by
  obtain ⟨b', off', e, hc⟩ := sl_cell h hi
  injection e with e; injection e with e1 e2; subst e1 e2; exact hc
theorem top_tdiv {x : Int} (h : -680564733841876926852962238568698216450 ≤ x ∧ x ≤ 680564733841876926852962238568698216450) : Int.tdiv (IntKind.u64.wrap (lmb x 2 + 8)) 16 = 0 ∧ 0 ≤ IntKind.u64.wrap (lmb x 2 + 8) := by
  have h1 : 0 ≤ IntKind.u64.wrap (lmb x 2 + 8) := by rw [IntKind.wrap_u64]; omega
  exact ⟨by rw [Int.tdiv_eq_ediv_of_nonneg h1]; exact top_small h, h1⟩
theorem Bx.belowB {w w' : World} {b B : Nat} {cs : Array Value} {t : TypeId} (h : Bx w b cs t) (hb : Below B w w') (hlt : b < B) : Bx w' b cs t := (hb.block b hlt).trans h
end Go.Proofs.YtfjanlfbnliokaaDoor
