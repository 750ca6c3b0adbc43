/- What a slice of integers holds, as a function of the index; how that is kept. Plain facts on memory; no program's run. -/
import Derived.Test.YtoikcgmdlccdbaaDoorMath
import Derived.WalkKit
import Derived.Lib.Hide
import Derived.Deep.Draws
namespace Go.Proofs.YtoikcgmdlccdbaaDoor
set_option linter.unusedVariables false
set_option linter.unusedSimpArgs false
open Go.RowKit

/-- the slice '.slice A n c' holds the integers f 0 .. f (n-1) of kind k -/
structure Sl (w : World) (k : IntKind) (A : Option Addr) (n c : Nat) (f : Nat → Int) : Prop where
  cap : n ≤ c
  max : c ≤ maxLen
  at_ : 0 < n → ∃ b off, A = some ⟨b, off, none⟩ ∧ b < w.heap.size ∧ ∀ i, i < n → w.cell? ⟨b, off + i, none⟩ = some (.int k (f i))

theorem Sl.below {w w' : World} {B : Nat} {k : IntKind} {A : Option Addr} {n c : Nat} {f : Nat → Int} (h : Sl w k A n c f) (hb : Below B w w') (hB : w.heap.size ≤ B) : Sl w' k A n c f :=
  ⟨h.cap, h.max, fun hn => by
    obtain ⟨b, off, e, hlt, hc⟩ := h.at_ hn
    exact ⟨b, off, e, Nat.lt_of_lt_of_le hlt hb.size, fun i hi => (hb.cell (p := ⟨b, off + i, none⟩) (by show b < B; omega)).trans (hc i hi)⟩⟩
theorem Sl.congr {w : World} {k : IntKind} {A : Option Addr} {n c : Nat} {f g : Nat → Int} (h : Sl w k A n c f) (he : ∀ i, i < n → f i = g i) : Sl w k A n c g :=
  ⟨h.cap, h.max, fun hn => by
    obtain ⟨b, off, e, hlt, hc⟩ := h.at_ hn
    exact ⟨b, off, e, hlt, fun i hi => by rw [hc i hi, he i hi]⟩⟩
theorem Sl.none_ {w : World} {k : IntKind} {f : Nat → Int} : Sl w k none 0 0 f := ⟨Nat.le_refl _, Nat.zero_le _, fun h => absurd h (by omega)⟩
theorem Sl.alloc {w : World} {k : IntKind} {A : Option Addr} {n c : Nat} {f : Nat → Int} (h : Sl w k A n c f) (o : Obj) : Sl (w.alloc o) k A n c f :=
  h.below ((Below.refl w.heap.size w).alloc (Nat.le_refl _) o) (Nat.le_refl _)
theorem Sl.drew {w : World} {k : IntKind} {A : Option Addr} {n c : Nat} {f : Nat → Int} (h : Sl w k A n c f) : Sl w.drew k A n c f := h.below (Below.refl w.heap.size w).drew (Nat.le_refl _)

/-- the cells f 0 .. f (n-1) -/
def row (k : IntKind) (f : Nat → Int) (n : Nat) : List Value := (List.range n).map fun i => Value.int k (f i)
theorem row_length (k : IntKind) (f : Nat → Int) (n : Nat) : (row k f n).length = n := by simp [row]
theorem row_get {k : IntKind} {f : Nat → Int} {n i : Nat} (h : i < n) : (row k f n)[i]? = some (.int k (f i)) := by simp [row, h]
theorem row_get_inv {k : IntKind} {f : Nat → Int} {n i : Nat} {u : Value} (h : (row k f n)[i]? = some u) : i < n ∧ u = .int k (f i) := by
  have hi : i < n := by
    rcases Nat.lt_or_ge i n with h1 | h1
    · exact h1
    · rw [List.getElem?_eq_none (by rw [row_length]; exact h1)] at h; cases h
  rw [row_get hi] at h
  exact ⟨hi, (Option.some.inj h).symm⟩
theorem row_succ (k : IntKind) (f : Nat → Int) (n : Nat) : row k f (n + 1) = row k f n ++ [.int k (f n)] := by simp [row, List.range_succ]
theorem row_congr {k : IntKind} {f g : Nat → Int} {n : Nat} (h : ∀ i, i < n → f i = g i) : row k f n = row k g n := by
  unfold row
  exact List.map_congr_left fun i hi => by rw [h i (List.mem_range.1 hi)]
theorem row_one (k : IntKind) (f : Nat → Int) (n : Nat) : ∀ u ∈ row k f n, u.oneCell' = true := by
  intro u hu
  simp only [row, List.mem_map] at hu
  obtain ⟨i, _, rfl⟩ := hu
  rfl

/-- a row of the call's own is a slice that holds it -/
theorem Sl.of_own {w : World} {base : Nat} {e : TypeId} {k : IntKind} {v : Value} {n : Nat} {f : Nat → Int} (h : w.ownsRow base e 1 v n (row k f n)) : ∃ A c, v = .slice A n c ∧ Sl w k A n c f := by
  rcases h.2 with ⟨rfl, rfl⟩ | ⟨g, cap, cur, rfl, hg, hh, hn, hm, hs, ht⟩
  · exact ⟨none, 0, rfl, Sl.none_⟩
  · have hlt : g < w.heap.size := by
      rcases Nat.lt_or_ge g w.heap.size with h1 | h1
      · exact h1
      · rw [Array.getElem?_eq_none h1] at hh; cases hh
    refine ⟨_, cap, rfl, hn, hm, fun h0 => ⟨g, 0, rfl, hlt, fun i hi => ?_⟩⟩
    rw [Nat.zero_add, World.ownsRow.cellAt h i (by omega), row_get hi]

/-- an address of the list cells that the laws on append ask for -/
theorem Sl.cells {w : World} {k : IntKind} {b off n c : Nat} {f : Nat → Int} (h : ∀ i, i < n → w.cell? ⟨b, off + i, none⟩ = some (.int k (f i))) : ∀ j u, (row k f n)[j]? = some u → w.cell? ((⟨b, off, none⟩ : Addr).add j) = some u := by
  intro j u hu
  obtain ⟨hj, rfl⟩ := row_get_inv hu
  rw [← h j hj]
  unfold Addr.add
  by_cases h0 : j = 0 <;> simp [h0]

/-- a shorter part from the head -/
theorem Sl.take {w : World} {k : IntKind} {A : Option Addr} {n c m : Nat} {f : Nat → Int} (h : Sl w k A n c f) (hm : m ≤ n) : Sl w k A m m f :=
  ⟨Nat.le_refl _, Nat.le_trans hm (Nat.le_trans h.cap h.max), fun h0 => by
    obtain ⟨b, off, e, hlt, hc⟩ := h.at_ (by omega)
    exact ⟨b, off, e, hlt, fun i hi => hc i (by omega)⟩⟩
theorem Sl.take_cap {w : World} {k : IntKind} {A : Option Addr} {n c m : Nat} {f : Nat → Int} (h : Sl w k A n c f) (hm : m ≤ n) : Sl w k A m c f :=
  ⟨Nat.le_trans hm h.cap, h.max, fun h0 => by
    obtain ⟨b, off, e, hlt, hc⟩ := h.at_ (by omega)
    exact ⟨b, off, e, hlt, fun i hi => hc i (by omega)⟩⟩
theorem cells_one_new (w : World) (v : Value) (t : TypeId) : ∀ j u, [v][j]? = some u → (w.alloc (.cells #[v] t)).cell? ((⟨w.heap.size, 0, none⟩ : Addr).add j) = some u := by
  intro j u hj
  match j, hj with
  | 0, hj => simp at hj; subst hj; simp [Addr.add]
theorem one_oneCell (k : IntKind) (x : Int) : ∀ u ∈ [Value.int k x], u.oneCell' = true := by intro u hu; simp at hu; subst hu; rfl
theorem own_push {w : World} {base : Nat} {e : TypeId} {k : IntKind} {v : Value} {n : Nat} {f : Nat → Int} {y : Int} (h : w.ownsRow base e 1 v (n + 1) (row k f n ++ [.int k y])) (hy : y = f n) : w.ownsRow base e 1 v (n + 1) (row k f (n + 1)) := by
  subst hy; rw [row_succ]; exact h
theorem own_block_le {w : World} {base : Nat} {e : TypeId} {size n : Nat} {v : Value} {xs : List Value} (h : w.ownsRow base e size v n xs) : ∀ k, v.ownBlock = some k → base ≤ k := fun k hk => (h.lt k hk).1

/-- the first k of r, then zeros -/
def upd (r : Nat → Int) (k : Nat) : Nat → Int := fun i => if i < k then r i else 0
theorem row_set {k : IntKind} {r : Nat → Int} {n j : Nat} {y : Int} (hy : y = r j) (hj : j < n) : (row k (upd r j) n).set j (.int k y) = row k (upd r (j + 1)) n := by
  subst hy
  apply List.ext_getElem
  · simp [row]
  · intro i h1 h2
    rw [List.getElem_set]
    simp only [row, List.getElem_map, List.getElem_range, upd]
    by_cases h : j = i
    · subst h; simp
    · rw [if_neg h]
      by_cases h3 : i < j
      · rw [if_pos h3, if_pos (by omega)]
      · rw [if_neg h3, if_neg (by omega)]
theorem row_zero (k : IntKind) (r : Nat → Int) (n : Nat) : List.replicate n (Value.int k 0) = row k (upd r 0) n := by
  apply List.ext_getElem
  · simp [row]
  · intro i h1 h2
    simp [row, upd]
theorem row_upd_all {k : IntKind} {r : Nat → Int} {n : Nat} : row k (upd r n) n = row k r n := row_congr fun i hi => by simp [upd, hi]

theorem cell_far {w : World} {p q : Addr} {v u : Value} (h : w.cell? q = some u) (hne : q.block ≠ p.block) : ((w.setCell p v).drew).cell? q = some u := by
  rw [World.cell?_drew, World.cell?_setCell_other _ _ _ _ (fun e => hne (by rw [e]))]; exact h

theorem own_store {w : World} {base : Nat} {e : TypeId} {k : IntKind} {g n c j : Nat} {r : Nat → Int} {y : Int} (h : w.ownsRow base e 1 (.slice (some ⟨g, 0, none⟩) n c) n (row k (upd r j) n)) (hy : y = r j) (hj : j < n) :
    (w.setCell ⟨g, j, none⟩ (.int k y)).ownsRow base e 1 (.slice (some ⟨g, 0, none⟩) n c) n (row k (upd r (j + 1)) n) := by
  rw [← row_set hy hj]; exact (World.ownsRow.stored h j _).1

theorem row_set_gen {k : IntKind} {f g : Nat → Int} {n j : Nat} {y : Int} (hy : y = g j) (he : ∀ i, i < n → i ≠ j → f i = g i) : (row k f n).set j (.int k y) = row k g n := by
  subst hy
  apply List.ext_getElem
  · simp [row]
  · intro i h1 h2
    rw [List.getElem_set]
    simp only [row, List.getElem_map, List.getElem_range]
    simp [row] at h2
    by_cases h : j = i
    · subst h; simp
    · rw [if_neg h, he i h2 (by omega)]
theorem own_set {w : World} {base : Nat} {e : TypeId} {k : IntKind} {b n c j : Nat} {f g : Nat → Int} {y : Int} (h : w.ownsRow base e 1 (.slice (some ⟨b, 0, none⟩) n c) n (row k f n)) (hy : y = g j) (he : ∀ i, i < n → i ≠ j → f i = g i) :
    (w.setCell ⟨b, j, none⟩ (.int k y)).ownsRow base e 1 (.slice (some ⟨b, 0, none⟩) n c) n (row k g n) := by
  rw [← row_set_gen hy he]; exact (World.ownsRow.stored h j _).1
theorem own_congr {w : World} {base : Nat} {e : TypeId} {k : IntKind} {v : Value} {n : Nat} {f g : Nat → Int} (h : w.ownsRow base e 1 v n (row k f n)) (he : ∀ i, i < n → f i = g i) : w.ownsRow base e 1 v n (row k g n) := by
  rw [← row_congr he]; exact h
theorem own_cell {w : World} {base : Nat} {e : TypeId} {k : IntKind} {b n c j : Nat} {f : Nat → Int} (h : w.ownsRow base e 1 (.slice (some ⟨b, 0, none⟩) n c) n (row k f n)) (hj : j < n) : w.cell? ⟨b, j, none⟩ = some (.int k (f j)) := by
  rw [World.ownsRow.cellAt h j (by omega), row_get hj]
end Go.Proofs.YtoikcgmdlccdbaaDoor
