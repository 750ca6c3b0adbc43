/- A block that holds known cells: kept by what changes only newer blocks; its cells; stores into it, and what such a store leaves. Plain facts on memory; no program's run. -/
import Derived.Test.YtoikcgmdlccdbaaDoorMem
namespace Go.Proofs.YtoikcgmdlccdbaaDoor
set_option linter.unusedVariables false
set_option linter.unusedSimpArgs false
open Go.RowKit

def Bx (w : World) (b : Nat) (cs : Array Value) (t : TypeId) : Prop := w.heap[b]? = some (.cells cs t (0, 0))
theorem Bx.lt {w : World} {b : Nat} {cs : Array Value} {t : TypeId} (h : Bx w b cs t) : b < w.heap.size := by
  rcases Nat.lt_or_ge b w.heap.size with h1 | h1
  · exact h1
  · unfold Bx at h; rw [Array.getElem?_eq_none h1] at h; cases h
theorem Bx.below {w w' : World} {b B : Nat} {cs : Array Value} {t : TypeId} (h : Bx w b cs t) (hb : Below B w w') (hB : w.heap.size ≤ B) : Bx w' b cs t :=
  (hb.block b (Nat.lt_of_lt_of_le h.lt hB)).trans h
theorem Bx.new (w : World) (cs : Array Value) (t : TypeId) : Bx (w.alloc (.cells cs t)) w.heap.size cs t := heap_alloc_new _ _
theorem Bx.alloc {w : World} {b : Nat} {cs : Array Value} {t : TypeId} (h : Bx w b cs t) (o : Obj) : Bx (w.alloc o) b cs t := h.below ((Below.refl w.heap.size w).alloc (Nat.le_refl _) o) (Nat.le_refl _)
theorem Bx.cell {w : World} {b : Nat} {cs : Array Value} {t : TypeId} (h : Bx w b cs t) (i : Nat) {v : Value} (hi : cs[i]? = some v) : w.cell? ⟨b, i, none⟩ = some v := by
  unfold Bx at h; simp [World.cell?, h, hi]
theorem Bx.free {w : World} {b : Nat} {cs : Array Value} {t : TypeId} (h : Bx w b cs t) (i : Nat) : w.frozen? ⟨b, i, none⟩ = false := by
  unfold Bx at h; simp [World.frozen?, h]
theorem Bx.set {w : World} {b : Nat} {cs : Array Value} {t : TypeId} (h : Bx w b cs t) (i : Nat) (v : Value) : Bx (w.setCell ⟨b, i, none⟩ v) b (cs.setIfInBounds i v) t := heap_setCell_same _ _ _ _ _ _ h
theorem Bx.other {w : World} {b : Nat} {cs : Array Value} {t : TypeId} (h : Bx w b cs t) {a : Addr} (v : Value) (hne : b ≠ a.block) : Bx (w.setCell a v) b cs t := (heap_setCell_other w a b v hne).trans h
theorem keep_set {w : World} {p a : Addr} {v u : Value} (h : w.cell? a = some u) (hne : a.block ≠ p.block) : (w.setCell p v).cell? a = some u := by
  rw [World.cell?_setCell_other _ _ _ _ (fun e => hne (by rw [e]))]; exact h
theorem lt_of_cell' {w : World} {b o : Nat} {v : Value} (h : w.cell? ⟨b, o, none⟩ = some v) : b < w.heap.size := block_lt_of_cell h
theorem keep_drew {w : World} {a : Addr} {u : Value} (h : w.cell? a = some u) : w.drew.cell? a = some u := by rw [World.cell?_drew]; exact h
/-- a store into a block without cells of the slice's kind turns no slice -/
theorem Sl.set {w : World} {k : IntKind} {A : Option Addr} {n c b o : Nat} {f : Nat → Int} {cs : Array Value} {t : TypeId} {v : Value} (h : Sl w k A n c f) (hb : Bx w b cs t) (hne : ∀ u ∈ cs.toList, ∀ x, u ≠ .int k x) : Sl (w.setCell ⟨b, o, none⟩ v) k A n c f :=
  ⟨h.cap, h.max, fun h0 => by
    obtain ⟨b', off, e, hlt, hc⟩ := h.at_ h0
    have hbb : b' ≠ b := fun e2 => by
      subst e2
      have h1 := hc 0 h0
      unfold Bx at hb
      simp [World.cell?, hb] at h1
      exact hne _ (by simpa using Array.mem_of_getElem? h1) _ rfl
    refine ⟨b', off, e, by simpa [World.setCell] using hlt, fun i hi => ?_⟩
    exact keep_set (hc i hi) hbb⟩
theorem below_al {w w' : World} {o : Obj} (h : Below w.heap.size w w') : Below w.heap.size w (w'.alloc o) := h.alloc h.size o
theorem below_st {w w' : World} {b i : Nat} {v : Value} (hp : w.heap.size ≤ b) (h : Below w.heap.size w w') : Below w.heap.size w (w'.setCell ⟨b, i, none⟩ v) := h.setCell hp v
theorem below_tr {w w' w'' : World} (h : Below w.heap.size w w') (b : Below w'.heap.size w' w'') : Below w.heap.size w w'' := h.trans (b.mono h.size)
theorem bx_new {w : World} {b : Nat} {cs : Array Value} {t : TypeId} (h : b = w.heap.size) : Bx (w.alloc (.cells cs t)) b cs t := by subst h; exact Bx.new w cs t
theorem bx_al {w : World} {b : Nat} {cs : Array Value} {t : TypeId} {o : Obj} (h : Bx w b cs t) : Bx (w.alloc o) b cs t := h.alloc o
theorem bx_tr {w w' : World} {b : Nat} {cs : Array Value} {t : TypeId} (h : Bx w b cs t) (hb : Below w.heap.size w w') : Bx w' b cs t := h.below hb (Nat.le_refl _)
theorem bx_dr {w : World} {b : Nat} {cs : Array Value} {t : TypeId} (h : Bx w b cs t) : Bx w.drew b cs t := h
theorem bx_ot {w : World} {b b' i : Nat} {cs : Array Value} {t : TypeId} {v : Value} (hne : b ≠ b') (h : Bx w b cs t) : Bx (w.setCell ⟨b', i, none⟩ v) b cs t := h.other v hne
theorem bx_set2 {w : World} {b : Nat} {z0 z1 v0 v1 : Value} {t : TypeId} (h : Bx w b #[z0, z1] t) : Bx ((w.setCell ⟨b, 0, none⟩ v0).setCell ⟨b, 1, none⟩ v1) b #[v0, v1] t := (h.set 0 v0).set 1 v1
theorem bx_set4 {w : World} {b : Nat} {z0 z1 z2 z3 v0 v1 v2 v3 : Value} {t : TypeId} (h : Bx w b #[z0, z1, z2, z3] t) : Bx ((((w.setCell ⟨b, 0, none⟩ v0).setCell ⟨b, 1, none⟩ v1).setCell ⟨b, 2, none⟩ v2).setCell ⟨b, 3, none⟩ v3) b #[v0, v1, v2, v3] t := (((h.set 0 v0).set 1 v1).set 2 v2).set 3 v3
theorem bx_set6 {w : World} {b : Nat} {z v0 v1 v2 v3 v4 v5 : Value} {t : TypeId} (h : Bx w b #[z, z, z, z, z, z] t) : Bx ((((((w.setCell ⟨b, 0, none⟩ v0).setCell ⟨b, 1, none⟩ v1).setCell ⟨b, 2, none⟩ v2).setCell ⟨b, 3, none⟩ v3).setCell ⟨b, 4, none⟩ v4).setCell ⟨b, 5, none⟩ v5) b #[v0, v1, v2, v3, v4, v5] t :=
  (((((h.set 0 v0).set 1 v1).set 2 v2).set 3 v3).set 4 v4).set 5 v5
theorem sl_set6 {w : World} {A : Option Addr} {n c b : Nat} {f : Nat → Int} {t : TypeId} {A0 A1 A2 A3 A4 A5 : Option Addr} {n0 n1 n2 n3 n4 n5 c0 c1 c2 c3 c4 c5 : Nat} (hb : Bx w b #[.slice none 0 0, .slice none 0 0, .slice none 0 0, .slice none 0 0, .slice none 0 0, .slice none 0 0] t) (h : Sl w .u64 A n c f) :
    Sl ((((((w.setCell ⟨b, 0, none⟩ (.slice A0 n0 c0)).setCell ⟨b, 1, none⟩ (.slice A1 n1 c1)).setCell ⟨b, 2, none⟩ (.slice A2 n2 c2)).setCell ⟨b, 3, none⟩ (.slice A3 n3 c3)).setCell ⟨b, 4, none⟩ (.slice A4 n4 c4)).setCell ⟨b, 5, none⟩ (.slice A5 n5 c5)) .u64 A n c f :=
  (((((h.set hb (by simp)).set (hb.set 0 _) (by simp)).set ((hb.set 0 _).set 1 _) (by simp)).set (((hb.set 0 _).set 1 _).set 2 _) (by simp)).set ((((hb.set 0 _).set 1 _).set 2 _).set 3 _) (by simp)).set (((((hb.set 0 _).set 1 _).set 2 _).set 3 _).set 4 _) (by simp)
theorem sl_al {w : World} {k : IntKind} {A : Option Addr} {n c : Nat} {f : Nat → Int} {o : Obj} (h : Sl w k A n c f) : Sl (w.alloc o) k A n c f := h.alloc o
theorem sl_tr {w w' : World} {k : IntKind} {A : Option Addr} {n c : Nat} {f : Nat → Int} (h : Sl w k A n c f) (hb : Below w.heap.size w w') : Sl w' k A n c f := h.below hb (Nat.le_refl _)
theorem sl_setV {w : World} {A : Option Addr} {n c b : Nat} {f : Nat → Int} {t : TypeId} {A2 : Option Addr} {n2 c2 : Nat} {v1 : Value} (hb : Bx w b #[.slice none 0 0, .slice none 0 0] t) (h : Sl w .u64 A n c f) : Sl ((w.setCell ⟨b, 0, none⟩ (.slice A2 n2 c2)).setCell ⟨b, 1, none⟩ v1) .u64 A n c f :=
  (h.set hb (by simp)).set (hb.set 0 _) (by simp)
theorem below_dr {w w' : World} (h : Below w.heap.size w w') : Below w.heap.size w w'.drew := h.drew
theorem below_rf {w : World} : Below w.heap.size w w := Below.refl _ _
theorem sl_dr {w : World} {k : IntKind} {A : Option Addr} {n c : Nat} {f : Nat → Int} (h : Sl w k A n c f) : Sl w.drew k A n c f := h.drew
theorem fwd_sl {w w' : World} {k : IntKind} {A : Option Addr} {n c : Nat} {f : Nat → Int} (h : Sl w k A n c f) (hb : Below w.heap.size w w') : Sl w' k A n c f := h.below hb (Nat.le_refl _)
theorem have_then {T Q : Prop} (h : T) (k : T → Q) : Q := k h
theorem below_drew0 (w : World) : Below w.heap.size w w.drew := (Below.refl _ _).drew
end Go.Proofs.YtoikcgmdlccdbaaDoor
