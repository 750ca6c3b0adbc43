/- A store into a box turns no number. -/
import Derived.Test.YtoikcgmdlccdbaaDoorRef3a
import Derived.Test.YtoikcgmdlccdbaaDoorBox
namespace Go.Proofs.YtoikcgmdlccdbaaDoor
open Go.RowKit
theorem Nm.setB {w : World} {A : Option Addr} {n c b o : Nat} {x : Int} {v : Value} {cs : Array Value} {t : TypeId} (h : Nm w A n c x) (hb : Bx w b cs t) (ht : t ≠ 3) : Nm (w.setCell ⟨b, o, none⟩ v) A n c x := h.set_ hb ht
theorem Nm.alloc {w : World} {A : Option Addr} {n c : Nat} {x : Int} (h : Nm w A n c x) (o : Obj) : Nm (w.alloc o) A n c x := h.below ((Below.refl w.heap.size w).alloc (Nat.le_refl _) o) (Nat.le_refl _)
theorem nm_dr {w : World} {A : Option Addr} {n c : Nat} {x : Int} (h : Nm w A n c x) : Nm w.drew A n c x := h.below (below_drew0 w) (Nat.le_refl _)
theorem fwd_nm {w w' : World} {A : Option Addr} {n c : Nat} {x : Int} (h : Nm w A n c x) (hb : Below w.heap.size w w') : Nm w' A n c x := h.below hb (Nat.le_refl _)
theorem nm_al {w : World} {A : Option Addr} {n c : Nat} {x : Int} {o : Obj} (h : Nm w A n c x) : Nm (w.alloc o) A n c x := h.alloc o
theorem nm_tr {w w' : World} {A : Option Addr} {n c : Nat} {x : Int} (h : Nm w A n c x) (hb : Below w.heap.size w w') : Nm w' A n c x := h.below hb (Nat.le_refl _)
theorem nm_set2 {w : World} {A : Option Addr} {n c b : Nat} {x : Int} {z0 z1 v0 v1 : Value} {t : TypeId} (ht : t ≠ 3) (hb : Bx w b #[z0, z1] t) (h : Nm w A n c x) : Nm ((w.setCell ⟨b, 0, none⟩ v0).setCell ⟨b, 1, none⟩ v1) A n c x :=
  (h.setB hb ht).setB (hb.set 0 v0) ht
theorem nm_set4 {w : World} {A : Option Addr} {n c b : Nat} {x : Int} {z0 z1 z2 z3 v0 v1 v2 v3 : Value} {t : TypeId} (ht : t ≠ 3) (hb : Bx w b #[z0, z1, z2, z3] t) (h : Nm w A n c x) : Nm ((((w.setCell ⟨b, 0, none⟩ v0).setCell ⟨b, 1, none⟩ v1).setCell ⟨b, 2, none⟩ v2).setCell ⟨b, 3, none⟩ v3) A n c x :=
  (((h.setB hb ht).setB (hb.set 0 v0) ht).setB ((hb.set 0 v0).set 1 v1) ht).setB (((hb.set 0 v0).set 1 v1).set 2 v2) ht
end Go.Proofs.YtoikcgmdlccdbaaDoor
