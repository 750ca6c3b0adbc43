/- What calls with a tape leave as it was; the events of a polygon's edges. -/
import Derived.Test.YtoikcgmdlccdbaaDoorTape2
import Derived.Test.YtoikcgmdlccdbaaDoorPolyV
namespace Go.Proofs.YtoikcgmdlccdbaaDoor
set_option linter.unusedVariables false
set_option linter.unusedSimpArgs false
open Go.RowKit Wd

/-- from w on: boxes of other types than the tape's lie as they lay; so does what is no cells, above the tape's map -/
structure QT (T m : Nat) (w w' : World) : Prop where
  bx : ∀ b cs t, t ≠ 51 → b ≠ T → Bx w b cs t → Bx w' b cs t
  ks : ∀ B, m < B → KeepsFrom B w w'
theorem QT.refl (T m : Nat) (w : World) : QT T m w w := ⟨fun _ _ _ _ _ h => h, fun B _ => KeepsFrom.refl B w⟩
theorem QT.trans {T m : Nat} {x y z : World} (h : QT T m x y) (k : QT T m y z) : QT T m x z := ⟨fun b cs t h1 h2 h3 => k.bx b cs t h1 h2 (h.bx b cs t h1 h2 h3), fun B hB => (h.ks B hB).trans (k.ks B hB)⟩
theorem QT.below {T m B : Nat} {x y z : World} (h : QT T m x y) (hb : Below B y z) (hB : y.heap.size ≤ B) : QT T m x z :=
  ⟨fun b cs t h1 h2 h3 => (h.bx b cs t h1 h2 h3).below hb hB, fun C hC => (h.ks C hC).trans ((keeps_below (hb.mono hB)).from C)⟩
theorem QT.store {T m c : Nat} {x y : World} (h : QT T m x y) (hc : x.heap.size ≤ c) (v : Value) : QT T m x (y.setCell ⟨c, 0, none⟩ v) :=
  ⟨fun b cs t h1 h2 h3 => (h.bx b cs t h1 h2 h3).other v (show b ≠ c from by have := h3.lt; omega), fun C hC => (h.ks C hC).trans ((KeepsOthers.setCell _ _ _).from C)⟩
theorem QT.grown {T m B : Nat} {x y z : World} {row : Option Nat} (h : QT T m x y) (hx : x.heap.size ≤ B) (hg : y.grownBy z row) (hr : ∀ r, row = some r → B ≤ r ∧ ∃ o : Obj, y.heap[r]? = some o ∧ o.isCells = false) : QT T m x z :=
  ⟨fun b cs t h1 h2 h3 => bx_grown (h.bx b cs t h1 h2 h3) hg hr, fun C hC => ⟨Nat.le_trans (h.ks C hC).size hg.size, fun k o h1 h2 h3 => by
    have h4 := (h.ks C hC).same k o h1 h2 h3
    exact (hg.block k (Array.getElem?_eq_some_iff.1 h4).1 (fun e => by have := (hr k e.symm).1; have := (Array.getElem?_eq_some_iff.1 h2).1; omega)).trans h4⟩⟩
theorem TapeW.store {n0 T m c : Nat} {w : World} {evs : List Ev} {cs : Array Value} {t : TypeId} (h : TapeW n0 w T m evs) (hb : Bx w c cs t) (ht : t ≠ 51) (hc : c ≠ T) (v : Value) : TapeW n0 (w.setCell ⟨c, 0, none⟩ v) T m evs := by
  obtain ⟨a, n, k, h1, h2⟩ := h.hT
  obtain ⟨D, es, clock, h3, h4⟩ := h.hm
  refine ⟨⟨a, n, k, h1.other v (Ne.symm hc), h2.kept (grownBy_setCell' w c v) (.inr (bx_notrow hb ht h2).symm)⟩, ⟨D, es, clock, ?_, h4⟩, h.lT, h.lm⟩
  rw [heap_setCell_other w ⟨c, 0, none⟩ m v (fun e => by
    cases e
    have := (show w.heap[_]? = _ from hb).symm.trans h3; cases this)]
  exact h3
theorem TapeW.grown {n0 T m B : Nat} {w z : World} {evs : List Ev} {row : Option Nat} (h : TapeW n0 w T m evs) (hm : m < B) (hg : w.grownBy z row) (hr : ∀ r, row = some r → B ≤ r ∧ ∃ o : Obj, w.heap[r]? = some o ∧ o.isCells = false) : TapeW n0 z T m evs := by
  obtain ⟨a, n, k, h1, h2⟩ := h.hT
  obtain ⟨D, es, clock, h3, h4⟩ := h.hm
  refine ⟨⟨a, n, k, bx_grown h1 hg hr, h2.kept hg ?_⟩, ⟨D, es, clock, (hg.block m (Array.getElem?_eq_some_iff.1 h3).1 (fun e => by have := (hr m e.symm).1; omega)).trans h3, h4⟩, h.lT, h.lm⟩
  cases hv : (Value.slice a n k).ownBlock with
  | none => exact .inl rfl
  | some g =>
    refine .inr (fun e => ?_)
    obtain ⟨_, cur, hgb⟩ := row_lt h2 hv
    obtain ⟨_, o, ho, hc⟩ := hr g e.symm
    rw [hgb] at ho; cases ho; cases hc
theorem TapeW.ltT {n0 T m : Nat} {w : World} {evs : List Ev} (h : TapeW n0 w T m evs) : T < w.heap.size := by obtain ⟨_, _, _, h, _⟩ := h.hT; exact h.lt
theorem TapeW.ltm {n0 T m : Nat} {w : World} {evs : List Ev} (h : TapeW n0 w T m evs) : m < w.heap.size := by obtain ⟨_, es, clock, h, _⟩ := h.hm; exact (Array.getElem?_eq_some_iff.1 h).1
/-- the events of edge k, the first q vertices having been looked at -/
def rowEv (n k : Nat) : Nat → List Ev
  | 0 => []
  | q + 1 => rowEv n k q ++ if skip n k q then [] else [(4, (k : Int), (q : Int))]
theorem rowEv_len (n k : Nat) : ∀ q, (rowEv n k q).length ≤ q
  | 0 => Nat.le_refl _
  | q + 1 => by
    rw [rowEv, List.length_append]
    have := rowEv_len n k q
    cases skip n k q <;> simp <;> omega
def valEvs (n : Nat) : List (Fin n) → List Ev
  | [] => []
  | x :: r => rowEv n x n ++ valEvs n r
theorem valEvs_snoc {n : Nat} : ∀ (pre : List (Fin n)) (x : Fin n), valEvs n (pre ++ [x]) = valEvs n pre ++ rowEv n x n
  | [], x => by simp [valEvs]
  | y :: r, x => by rw [List.cons_append, valEvs, valEvs, valEvs_snoc r x, List.append_assoc]
theorem valEvs_len {n : Nat} : ∀ (pre : List (Fin n)), (valEvs n pre).length ≤ pre.length * n
  | [] => by simp [valEvs]
  | y :: r => by
    rw [valEvs, List.length_append, List.length_cons, Nat.succ_mul]
    have := rowEv_len n y n; have := valEvs_len r; omega
theorem valEvs_cap {n k q : Nat} {pre : List (Fin n)} (h : n ≤ 70) (hp : pre.length < n) (hq : q ≤ n) : (valEvs n pre ++ rowEv n k q).length ≤ 100000 := by
  rw [List.length_append]
  have h1 := valEvs_len pre; have h2 := rowEv_len n k q
  have h3 : pre.length * n ≤ 70 * 70 := Nat.mul_le_mul (by omega) h
  omega
def locEvs (n : Nat) : List (Fin n) → List Ev
  | [] => []
  | x :: r => (5, ((x : Nat) : Int), 0) :: locEvs n r
theorem locEvs_snoc {n : Nat} : ∀ (pre : List (Fin n)) (x : Fin n), locEvs n (pre ++ [x]) = locEvs n pre ++ [(5, ((x : Nat) : Int), 0)]
  | [], x => rfl
  | y :: r, x => by rw [List.cons_append, locEvs, locEvs, locEvs_snoc r x]; rfl
theorem locEvs_len {n : Nat} : ∀ (pre : List (Fin n)), (locEvs n pre).length = pre.length
  | [] => rfl
  | y :: r => by rw [locEvs, List.length_cons, List.length_cons, locEvs_len r]
end Go.Proofs.YtoikcgmdlccdbaaDoor
