/- Part n of the lemmas of TopBatch: contracts of functions of the program, and plain laws of numbers, bytes and memory. -/
import Derived.Test.YtjdiilkljgljkaaGreatDoorMc
import Derived.Test.YtjdiilkljgljkaaGreatDoorMl
import Derived.Test.YtjdiilkljgljkaaGreatDoorMb
import Derived.Laws.AppendOwn
import Derived.Shelf.SlicesQ.Reverse
import Derived.Ground.SlgnProg
import Derived.Test.YtjdiilkljgljkaaGreatDoorMm
import Derived.Test.YtjdiilkljgljkaaGreatDoorMa
import Derived.ChangeArms
import Derived.Test.YtjdiilkljgljkaaGreatDoorMj
import Derived.Test.YtjdiilkljgljkaaGreatDoorMi
import Derived.Test.YtjdiilkljgljkaaGreatDoorMk
import Derived.Maps.AppendAt
import Derived.Test.YtjdiilkljgljkaaGreatDoorMh
import Derived.Test.YtjdiilkljgljkaaGreatDoorCards
import Derived.Test.YtjdiilkljgljkaaGreatDoorTie
import Derived.WalkKit
import Derived.ProofKit
import Derived.OpenShut
import Derived.Lib.LaidTab
set_option maxHeartbeats 4000000
namespace Go.Proofs.YtjdiilkljgljkaaGreatDoor
set_option linter.unusedVariables false
set_option linter.unusedSimpArgs false
open Go.RowKit Wd Go.Shelf Go.Lib Go.Sort
theorem ZjN : (Tryz.prog.info? 63).map (fun i => (i.zero, i.size, i.bytes)) = some (some (.agg #[.int .i64 0, .int .i64 0, .int .u64 0]), 3, 24) := by kernel_rfl
def Zdx (x : Int × Int × Int) : List Value := [.int .i64 x.1, .int .i64 x.2.1, .int .u64 x.2.2]
def quL (f a d : Nat → Int) : Nat → List Value
 | 0 => []
 | k + 1 => quL f a d k ++ [.int .i64 (f k), .int .i64 (a k), .int .u64 (d k)]
theorem ZbK (f a d : Nat → Int) : ∀ k, (quL f a d k).length = k * 3
 | 0 => rfl
 | k + 1 => by rw [quL, List.length_append, ZbK f a d k]; simp; omega
theorem ZdU (f a d : Nat → Int) : ∀ n i, i < n → (quL f a d n)[i * 3]? = some (.int .i64 (f i)) ∧ (quL f a d n)[i * 3 + 1]? = some (.int .i64 (a i)) ∧ (quL f a d n)[i * 3 + 2]? = some (.int .u64 (d i))
 | 0, i, h => absurd h (by omega)
 | n + 1, i, hi => by
  rw [quL]
  rcases (by omega : i < n ∨ i = n) with h1 | rfl
  ·have hl := ZbK f a d n
   rw [List.getElem?_append_left (by omega), List.getElem?_append_left (by omega), List.getElem?_append_left (by omega)]
   exact ZdU f a d n i h1
  ·have hl := ZbK f a d i
   rw [List.getElem?_append_right (by omega), List.getElem?_append_right (by omega), List.getElem?_append_right (by omega), hl]
   simp
theorem Zgo (f a d : Nat → Int) : ∀ k, ∀ u ∈ quL f a d k, u.oneCell' = true
 | 0, u, h => by simp [quL] at h
 | k + 1, u, h => by
  rw [quL, List.mem_append] at h
  rcases h with h | h
  ·exact Zgo f a d k u h
  ·simp at h; rcases h with rfl | rfl | rfl <;> rfl
theorem Zk9 {w : World} {b off n c : Nat} {f a d : Nat → Int} (h : Qus w (some ⟨b, off, none⟩) n c f a d) : ∀ j u, (quL f a d n)[j]? = some u → w.cell? ((⟨b, off, none⟩ : Addr).add j) = some u := by
 intro j u hj
 have hlt : j < n * 3 := by have := (List.getElem?_eq_some_iff.1 hj).1; rw [ZbK] at this; exact this
 obtain ⟨b', off', e, _, hc⟩ := h.at_ (by omega)
 cases e
 have ea : (⟨b, off, none⟩ : Addr).add j = ⟨b, off + j, none⟩ := by unfold Addr.add; split <;> simp_all
 rw [ea]
 obtain ⟨q, hq, e⟩ : ∃ q, q < n ∧ (j = q * 3 ∨ j = q * 3 + 1 ∨ j = q * 3 + 2) := ⟨j / 3, by omega, by omega⟩
 obtain ⟨g1, g2, g3⟩ := ZdU f a d n q hq
 obtain ⟨c1, c2, c3⟩ := hc q hq
 rcases e with rfl | rfl | rfl
 ·rw [hj] at g1; cases g1; exact c1
 ·rw [hj] at g2; cases g2; rw [← Nat.add_assoc]; exact c2
 ·rw [hj] at g3; cases g3; rw [← Nat.add_assoc]; exact c3
set_option maxRecDepth 100000 in
theorem Zjc (A : Option Addr) (n c : Nat) (f a d : Nat → Int) (w : World) (hp : Qus w A n c f a d) (h0 : 1 ≤ n) (hn : n ≤ 1000) :
  Calls Tryz.prog 23 #[.slice A n c] w fun e w' => (∃ g' c' cur, e = .returned (.slice (some ⟨g', 0, none⟩) n c') ∧ w.heap.size ≤ g' ∧ Bx w' g' cur 63 ∧ n ≤ c' ∧ c' ≤ maxLen ∧ cur.size = c' * 3 ∧ cur.toList.take (n * 3) = quL f a d n) ∧ Below w.heap.size w w' := by
 have q22 : ∀ (w : World) (a : Option Addr) (n c n' c' : Nat), (binOp .eql 30 (.slice a n c) (.slice none n' c')).run Tryz.prog w = .ok (.bool a.isNone) w := fun w a n c n' c' => Lib.run_eql_slice_nil w _ _ a n c n' c' Tryz.underlying30
 obtain ⟨i0, hi0, hz0, hz1, hz2⟩ := info_parts ZjN
 have mixed : Tryz.prog.follows .mixedOrders = true := by kernel_rfl
 obtain ⟨b, off, rfl, -⟩ := hp.at_ (by omega)
 have HP := η hp; clear hp
 go_enter Tryz.func23, Tryz.ntmps23
 go_wp2_with (at_builtin; refine wpList_append_own _ rfl _ _ 30 rfl w.heap.size 63 i0 _ 3 24 Tryz.underlying30 hi0 hz0 hz1 hz2 rfl (by decide) _ _ _ rfl (World.ownsRow_made w #[] 0 ν (Nat.zero_le _) (by simp)) ⟨b, off, none⟩ n c (quL f a d n) rfl ?qc1 ?qc2 ?qc3 ?qc4 ?qc5 ?qc6 ?_)
 case qc1 => exact ZbK f a d n
 case qc2 => exact Zk9 (HP.out.alloc _)
 case qc3 => exact Zgo f a d n
 case qc4 => unfold maxLen; omega
 case qc5 => omega
 case qc6 => simp
 intro v' w1 hown hgrow hnil
 have HO := η hown; have HG := η hgrow; have HN := η hnil; clear hown hgrow hnil
 go_wp2
 go_ret
 have hB : Below w.heap.size w w1 := ((Below.refl _ w).alloc ν _).grown HG.out (by simp) (by intro k hk; simp [Value.ownBlock] at hk; omega)
 refine ⟨?_, hB⟩
 rcases HO.out.2 with ⟨h1, h2⟩ | ⟨g', cap, cur, h1, h2, h3, h4, h5, h6, h7⟩
 ·exact (HN.out h1).elim
 ·refine ⟨g', cap, cur, ?_, h2, h3, by omega, h5, h6, by simpa using h7⟩
  rw [h1]; simp
theorem Zjd : ∀ w, (isAgg 63).run Tryz.prog w = .ok true w := Tryz.isAgg63
theorem qusz : ∀ w, (Go.sizeOf 63).run Tryz.prog w = .ok 3 w := Tryz.sizeOf63
theorem Zg2 {g m off : Nat} {w : World} {F : Array Value} : Below g w (Sort.putRow id (Sort.ahead w m) g off F) :=
 ⟨rfl, rfl, rfl, by simp, fun k hk => by
  unfold Sort.putRow Sort.mapBlock
  show (w.heap.modify g _)[k]? = _
  rw [Array.getElem?_modify]; split
  ·omega
  ·rfl⟩
theorem ZhG (g n c : Nat) (f a d : Nat → Int) (cur : Array Value) (w : World) (hb : Bx w g cur 63) (hr : cur.toList.take (n * 3) = quL f a d n) (hi : ∀ i, i < n → IsI (f i) ∧ IsI (a i) ∧ IsW (d i)) (hc : n ≤ c) (hm : c ≤ maxLen) :
  Calls Tryz.prog 24 #[.slice (some ⟨g, 0, none⟩) n c] w fun e w' => e = .returned (.tuple #[]) ∧ Qus w' (some ⟨g, 0, none⟩) n c (rv n f) (rv n a) (rv n d) ∧ Below g w w' := by
 have hd : ((Array.range n).map fun i => (f i, a i, d i)).size = n := by simp
 have hg : ∀ i, i < n → ((Array.range n).map fun i => (f i, a i, d i))[i]! = (f i, a i, d i) := fun i hi => by
  rw [getElem!_pos _ i (by rw [hd]; exact hi)]; simp
 have hcell : ∀ j u, (quL f a d n)[j]? = some u → w.cell? ⟨g, j, none⟩ = some u := fun j u hj => by
  refine hb.cell j ?_
  rw [← hr, List.getElem?_take] at hj
  split at hj
  ·simpa using hj
  ·cases hj
 have hH : HoldsK Zdx 3 w g 0 ((Array.range n).map fun i => (f i, a i, d i)) := by
  intro j hj
  rw [size_flatK, hd] at hj
  refine ⟨?_, hb.free _⟩
  rw [get_flatK _ _ _ _ (by rw [hd]; exact hj), hg _ (by omega), Nat.zero_add]
  obtain ⟨h1, h2, h3⟩ := ZdU f a d n (j / 3) (by omega)
  rcases (by omega : j = j / 3 * 3 ∨ j = j / 3 * 3 + 1 ∨ j = j / 3 * 3 + 2) with e | e | e
  ·rw [show j % 3 = 0 by omega]; rw [← e] at h1; exact hcell j _ h1
  ·rw [show j % 3 = 1 by omega]; rw [← e] at h2; exact hcell j _ h2
  ·rw [show j % 3 = 2 by omega]; rw [← e] at h3; exact hcell j _ h3
 have := AnyQ.slices_Reverse Zk8 3 Zjd qusz Zdx (fun _ => rfl) (fun x v hv => by simp [Zdx] at hv; rcases hv with rfl | rfl | rfl <;> rfl) g 0 c _ w hH (by rw [hd]; unfold maxLen at hm; omega)
 rw [hd] at this
 refine this.mono ?_
 rintro e w' ⟨rfl, m, rfl⟩
 refine ⟨rfl, ⟨hc, hm, fun i hi' => hi _ (by omega), fun hn => ⟨g, 0, rfl, ?_, fun i hi' => ?_⟩⟩, Zg2⟩
 ·have := hb.lt; simp [putRowK]; omega
 ·have hR := holdsK_putRowK Zdx 3 (Sort.ahead w m) g 0 _ (((Array.range n).map fun i => (f i, a i, d i)).reverse) (holdsK_ahead Zdx 3 w m g 0 _ hH) (by simp)
  have hs : i < (((Array.range n).map fun i => (f i, a i, d i)).reverse).size := by simp; exact hi'
  have hv : (((Array.range n).map fun i => (f i, a i, d i)).reverse)[i]! = (f (n - 1 - i), a (n - 1 - i), d (n - 1 - i)) := by
   rw [getElem!_pos _ i hs]; simp
  have e0 := HoldsK.cells hR (fun _ => rfl) hs 0 _ (by rw [hv]; rfl)
  have e1 := HoldsK.cells hR (fun _ => rfl) hs 1 _ (by rw [hv]; rfl)
  have e2 := HoldsK.cells hR (fun _ => rfl) hs 2 _ (by rw [hv]; rfl)
  rw [Addr.add_lit] at e0 e1 e2
  exact ⟨e0, e1, e2⟩
end Go.Proofs.YtjdiilkljgljkaaGreatDoor
namespace Go.Proofs.YtjdiilkljgljkaaGreatDoor
set_option linter.unusedVariables false
set_option linter.unusedSimpArgs false
namespace Op
open Go.ChangeShapes Go.WideShapes Go.ChangeAt Go.RowKit Wd
variable {H : Type} {enc : TypeId × Value → H} {P : Program} {w : World} {base : Nat} {spare : Nat → Bool} {held : Bool}
theorem open_rgs {t e kb ki kp ep kk : TypeId} {f0 f1 f2 g0 g1 : Field} {A : Option Addr} {n c : Nat} {x : DataW H} {p : List MemPlace} (ht : P.underlying t = some (.slice e)) (he : P.underlying e = some (.struct #[f0, f1, f2])) (t0 : f0.type = kb) (t1 : f1.type = ki) (t2 : f2.type = kp) (o0 : f0.offset = 0) (o1 : f1.offset = 1) (o2 : f2.offset = 2)
  (hkb : P.underlying kb = some .bool) (hki : P.underlying ki = some (.int .i64)) (cb : P.cellsOf kb = 1) (ci : P.cellsOf ki = 1) (cp : P.cellsOf kp = 1) (ce : P.cellsOf e = 3)
  (hkp : P.underlying kp = some (.slice ep)) (hep : P.underlying ep = some (.struct #[g0, g1])) (u0 : g0.type = kk) (u1 : g1.type = kk) (q0 : g0.offset = 0) (q1 : g1.offset = 1) (hk : P.underlying kk = some (.int .i64)) (ck : P.cellsOf kk = 1) (cpt : P.cellsOf ep = 2)
  (h : DataW.Trod enc P w base spare held t (.slice A n c) x p) : ∃ (d : Nat → Bool) (v : Nat → Int) (Q : Nat → Option Addr × Nat × Nat) (F G : Nat → Nat → Int), Rgs w A n c d v Q ∧ RgP w n Q F G := by
 obtain ⟨fuel, hf⟩ := h
 rcases Go.Deep.open_slice ht hf with ⟨hcs, _⟩ | ⟨a, len, cap, m, n', D, Pl, hcs, _, hl, hm, hmm, _, hx⟩
 ·have e0 : Value.slice A n c = .slice none 0 0 := by simpa [Value.cells] using hcs
  injection e0 with e1 e2 e3
  subst e1 e2 e3
  exact ⟨fun _ => false, fun _ => 0, fun _ => (none, 0, 0), fun _ _ => 0, fun _ _ => 0, ⟨Nat.le_refl _, Nat.zero_le _, fun i hi => absurd hi (Nat.not_lt_zero _), fun h => absurd h (Nat.lt_irrefl _)⟩, ⟨fun i hi => absurd hi (Nat.not_lt_zero _)⟩⟩
 ·have e0 : Value.slice A n c = .slice (some a) len cap := by simpa [Value.cells] using hcs
  injection e0 with e1 e2 e3
  subst e1 e2 e3
  have hmn : n ≤ m := by rw [hmm]; split <;> omega
  rw [ce] at hx
  obtain ⟨V, hV⟩ := Go.Deep.choose_lt (α := Bool × Int × (Option Addr × Nat × Nat) × (Nat → Int) × (Nat → Int)) (n := n) (p := fun i y => w.cell? ((a.add (i * 3)).add 0) = some (.bool y.1) ∧ w.cell? ((a.add (i * 3)).add 1) = some (.int .i64 y.2.1) ∧ w.cell? ((a.add (i * 3)).add 2) = some (.slice y.2.2.1.1 y.2.2.1.2.1 y.2.2.1.2.2) ∧ IsI y.2.1 ∧ Pts w y.2.2.1.1 y.2.2.1.2.1 y.2.2.1.2.2 y.2.2.2.1 y.2.2.2.2) (fun i hi => by
   obtain ⟨cs', h1, h2⟩ := hx i (by omega)
   obtain ⟨_, hlen, hc⟩ := World.cells?_some h1
   obtain ⟨xs, m', _, _, _, hxl, hff⟩ := DataW.trod_struct he h2
   have l3 : xs.length = 3 := hxl
   match cs', hlen with
   | [v0, v1, v2], _ =>
    match xs, l3 with
    | [y0, y1, y2], _ =>
     have r0 := hff 0 f0 rfl
     have r1 := hff 1 f1 rfl
     have r2 := hff 2 f2 rfl
     rw [t0, o0, cb] at r0
     rw [t1, o1, ci] at r1
     rw [t2, o2, cp] at r2
     simp at r0 r1 r2
     obtain ⟨bb, eb, _⟩ := DataW.trod_bool hkb r0
     obtain ⟨z, ez, _, wz⟩ := DataW.trod_int hki r1
     simp at eb ez
     subst eb ez
     have hs : ∃ A k c, v2 = .slice A k c := by
      rcases Go.Deep.open_slice hkp r2 with ⟨e, _⟩ | ⟨_, _, _, _, _, _, _, e, _⟩
      ·simp at e; exact ⟨_, _, _, e⟩
      ·simp at e; exact ⟨_, _, _, e⟩
     obtain ⟨A', k', c', rfl⟩ := hs
     obtain ⟨ff, gg, hpt⟩ := ZgW (w := w) hkp hep u0 u1 q0 q1 hk ck cpt (d := y2.1) (p := y2.2) ⟨m', r2⟩
     exact ⟨(bb, z, (A', k', c'), ff, gg), hc 0 (by decide), hc 1 (by decide), hc 2 (by decide), ZaS wz, hpt⟩)
  refine ⟨fun i => (V i).1, fun i => (V i).2.1, fun i => (V i).2.2.1, fun i => (V i).2.2.2.1, fun i => (V i).2.2.2.2, ⟨hl, hm, fun i hi => (hV i hi).2.2.2.1, fun hn => ?_⟩, ⟨fun i hi => (hV i hi).2.2.2.2⟩⟩
  obtain ⟨b, off, sp⟩ := a
  have h0 := (hV 0 hn).1
  have h0' : w.cell? ⟨b, off, sp⟩ = some (.bool (V 0).1) := by simpa [Addr.add] using h0
  obtain ⟨rfl, hlt⟩ := ZcQ h0'
  have ea : ∀ o j, (⟨b, o, none⟩ : Addr).add j = ⟨b, o + j, none⟩ := fun o j => by unfold Addr.add; split <;> simp_all
  refine ⟨b, off, rfl, hlt, fun i hi => ?_⟩
  have hv := hV i hi
  rw [ea, ea, ea, ea] at hv
  exact ⟨hv.1, hv.2.1, hv.2.2.1⟩
end Op
namespace Op
open Go.ChangeShapes Go.WideShapes Go.ChangeAt Go.RowKit Wd
variable {H : Type} {enc : TypeId × Value → H} {P : Program} {w : World} {base : Nat} {spare : Nat → Bool} {held : Bool}
theorem open_qus {t e kp ku kk : TypeId} {f0 f1 g0 g1 : Field} {A : Option Addr} {n c : Nat} {x : DataW H} {p : List MemPlace} (ht : P.underlying t = some (.slice e)) (he : P.underlying e = some (.struct #[f0, f1])) (t0 : f0.type = kp) (t1 : f1.type = ku) (o0 : f0.offset = 0) (o1 : f1.offset = 2)
  (hkp : P.underlying kp = some (.struct #[g0, g1])) (u0 : g0.type = kk) (u1 : g1.type = kk) (q0 : g0.offset = 0) (q1 : g1.offset = 1) (hk : P.underlying kk = some (.int .i64)) (ck : P.cellsOf kk = 1) (cp : P.cellsOf kp = 2) (hku : P.underlying ku = some (.int .u64)) (cu : P.cellsOf ku = 1) (ce : P.cellsOf e = 3)
  (h : DataW.Trod enc P w base spare held t (.slice A n c) x p) : ∃ f g d : Nat → Int, Qus w A n c f g d := by
 obtain ⟨fuel, hf⟩ := h
 rcases Go.Deep.open_slice ht hf with ⟨hcs, _⟩ | ⟨a, len, cap, m, n', D, Pl, hcs, _, hl, hm, hmm, _, hx⟩
 ·have e0 : Value.slice A n c = .slice none 0 0 := by simpa [Value.cells] using hcs
  injection e0 with e1 e2 e3
  subst e1 e2 e3
  exact ⟨fun _ => 0, fun _ => 0, fun _ => 0, ⟨Nat.le_refl _, Nat.zero_le _, fun i hi => absurd hi (Nat.not_lt_zero _), fun h => absurd h (Nat.lt_irrefl _)⟩⟩
 ·have e0 : Value.slice A n c = .slice (some a) len cap := by simpa [Value.cells] using hcs
  injection e0 with e1 e2 e3
  subst e1 e2 e3
  have hmn : n ≤ m := by rw [hmm]; split <;> omega
  rw [ce] at hx
  obtain ⟨V, hV⟩ := Go.Deep.choose_lt (α := Int × Int × Int) (n := n) (p := fun i y => w.cell? ((a.add (i * 3)).add 0) = some (.int .i64 y.1) ∧ w.cell? ((a.add (i * 3)).add 1) = some (.int .i64 y.2.1) ∧ w.cell? ((a.add (i * 3)).add 2) = some (.int .u64 y.2.2) ∧ IsI y.1 ∧ IsI y.2.1 ∧ IsW y.2.2) (fun i hi => by
   obtain ⟨cs', h1, h2⟩ := hx i (by omega)
   obtain ⟨_, hlen, hc⟩ := World.cells?_some h1
   obtain ⟨y0, y1, m', _, _, r0, r1⟩ := trod_struct2 he h2
   match cs', hlen with
   | [v0, v1, v2], _ =>
    rw [t0, o0, cp] at r0
    rw [t1, o1, cu] at r1
    simp at r0 r1
    obtain ⟨z0, z1, m2, _, _, s0, s1⟩ := trod_struct2 hkp r0
    rw [u0, q0, ck] at s0
    rw [u1, q1, ck] at s1
    simp at s0 s1
    obtain ⟨a0, e0, _, w0⟩ := DataW.trod_int hk s0
    obtain ⟨a1, e1, _, w1⟩ := DataW.trod_int hk s1
    obtain ⟨a2, e2, _, w2⟩ := DataW.trod_int hku r1
    simp at e0 e1 e2
    subst e0 e1 e2
    exact ⟨(a0, a1, a2), hc 0 (by decide), hc 1 (by decide), hc 2 (by decide), ZaS w0, ZaS w1, ZgT w2⟩)
  refine ⟨fun i => (V i).1, fun i => (V i).2.1, fun i => (V i).2.2, ⟨hl, hm, fun i hi => (hV i hi).2.2.2, fun hn => ?_⟩⟩
  obtain ⟨b, off, sp⟩ := a
  have h0 := (hV 0 hn).1
  have h0' : w.cell? ⟨b, off, sp⟩ = some (.int .i64 (V 0).1) := by simpa [Addr.add] using h0
  obtain ⟨rfl, hlt⟩ := ZcQ h0'
  have ea : ∀ o j, (⟨b, o, none⟩ : Addr).add j = ⟨b, o + j, none⟩ := fun o j => by unfold Addr.add; split <;> simp_all
  refine ⟨b, off, rfl, hlt, fun i hi => ?_⟩
  have hv := hV i hi
  rw [ea, ea, ea, ea] at hv
  exact ⟨hv.1, hv.2.1, hv.2.2.1⟩
end Op
end Go.Proofs.YtjdiilkljgljkaaGreatDoor
namespace Go.Proofs.YtjdiilkljgljkaaGreatDoor
set_option linter.unusedVariables false
set_option linter.unusedSimpArgs false
open Go.RowKit Wd
theorem lv (k : Int) : (k < 18446744073709551616 ∧ rl k = 1 ∧ ri k = k) ∨ (18446744073709551616 ≤ k ∧ rl k = 0 ∧ ri k = 0) := by
 by_cases h : k < 18446744073709551616
 ·exact .inl ⟨h, by simp [rl, h], by simp [ri, h]⟩
 ·exact .inr ⟨by omega, by simp [rl, h], by simp [ri, h]⟩
set_option maxRecDepth 100000 in
theorem JF (x y : Int) (h : x = 1 ∨ (x = 0 ∧ y = 0)) (w : World) :
  Calls Tryz.prog 67 #[.agg #[.int .u64 x, .int .u64 y]] w fun e w' => e = .returned (.agg #[.int .u64 x, .int .u64 y]) ∧ Below w.heap.size w w' := by
 rcases h with rfl | ⟨rfl, rfl⟩
 ·have HX := η (Bx.new w #[.int .u64 1, .int .u64 y] 86)
  have c0 := HX.out.cell 0 (v := .int .u64 1) rfl
  have c1 := HX.out.cell 1 (v := .int .u64 y) rfl
  go_enter Tryz.func67, Tryz.ntmps67
  go_wp2_with fail
  have HZ := η (show Bx ((w.alloc (.cells #[.int .u64 1, .int .u64 y] 86)).alloc (.cells #[.int .u64 1, .int .u64 y] 86)) (w.heap.size + 1) #[.int .u64 1, .int .u64 y] 86 from Jb (by simp))
  have HB := η (show Below w.heap.size w ((w.alloc (.cells #[.int .u64 1, .int .u64 y] 86)).alloc (.cells #[.int .u64 1, .int .u64 y] 86)) from J8 (J8 J0))
  have q0 := HZ.out.cell 0 (v := .int .u64 1) rfl; have q1 := HZ.out.cell 1 (v := .int .u64 y) rfl
  generalize ((w.alloc (.cells #[.int .u64 1, .int .u64 y] 86)).alloc (.cells #[.int .u64 1, .int .u64 y] 86)) = w2 at *
  refine bodyPost_ret (v := .agg #[.int .u64 1, .int .u64 y]) (by simp [results, Tryz.results67, go_sem, q0, q1]) rfl ⟨rfl, HB.out⟩
 ·have HX := η (Bx.new w #[.int .u64 0, .int .u64 0] 86)
  have c0 := HX.out.cell 0 (v := .int .u64 0) rfl
  have c1 := HX.out.cell 1 (v := .int .u64 0) rfl
  go_enter Tryz.func67, Tryz.ntmps67
  go_wp2_with fail
  have HZ := η (show Bx ((w.alloc (.cells #[.int .u64 0, .int .u64 0] 86)).alloc (.cells #[.int .u64 0, .int .u64 0] 86)) (w.heap.size + 1) #[.int .u64 0, .int .u64 0] 86 from Jb (by simp))
  have HB := η (show Below w.heap.size w ((w.alloc (.cells #[.int .u64 0, .int .u64 0] 86)).alloc (.cells #[.int .u64 0, .int .u64 0] 86)) from J8 (J8 J0))
  have q0 := HZ.out.cell 0 (v := .int .u64 0) rfl; have q1 := HZ.out.cell 1 (v := .int .u64 0) rfl
  generalize ((w.alloc (.cells #[.int .u64 0, .int .u64 0] 86)).alloc (.cells #[.int .u64 0, .int .u64 0] 86)) = w2 at *
  refine bodyPost_ret (v := .agg #[.int .u64 0, .int .u64 0]) (by simp [results, Tryz.results67, go_sem, q0, q1]) rfl ⟨rfl, HB.out⟩
set_option maxRecDepth 100000 in
theorem Zg3 (k : Int) (w : World) :
  Calls Tryz.prog 67 #[.agg #[.int .u64 (rl k), .int .u64 (ri k)]] w fun e w' => e = .returned (.agg #[.int .u64 (rl k), .int .u64 (ri k)]) ∧ Below w.heap.size w w' := by
 refine JF _ _ ?_ w
 rcases lv k with ⟨_, h, _⟩ | ⟨_, h, h'⟩
 ·exact .inl h
 ·exact .inr ⟨h, h'⟩
set_option maxRecDepth 100000 in
theorem Zdy (a b : Int) (w : World) :
  Calls Tryz.prog 68 #[.agg #[.int .u64 (rl a), .int .u64 (ri a)], .agg #[.int .u64 (rl b), .int .u64 (ri b)]] w fun e w' => e = .returned (.bool (decide (a < 18446744073709551616 ∧ a < b))) ∧ Below w.heap.size w w' := by
 rcases lv a with ⟨ha, h1, h2⟩ | ⟨ha, h1, h2⟩ <;> rcases lv b with ⟨hb, h3, h4⟩ | ⟨hb, h3, h4⟩
 ·rw [h1, h2, h3, h4, show decide (a < 18446744073709551616 ∧ a < b) = decide (a < b) from decide_eq_decide.2 ⟨fun h => h.2, fun h => ⟨ha, h⟩⟩]
  clear h1 h2 h3 h4 ha hb
  have HXA := η (show Bx ((w.alloc (.cells #[.int .u64 1, .int .u64 a] 86)).alloc (.cells #[.int .u64 1, .int .u64 b] 86)) w.heap.size #[.int .u64 1, .int .u64 a] 86 from (Bx.new w #[.int .u64 1, .int .u64 a] 86).alloc _)
  have HXB := η (show Bx ((w.alloc (.cells #[.int .u64 1, .int .u64 a] 86)).alloc (.cells #[.int .u64 1, .int .u64 b] 86)) (w.heap.size + 1) #[.int .u64 1, .int .u64 b] 86 from Jb (by simp))
  have HB1 := η (show Below w.heap.size w ((w.alloc (.cells #[.int .u64 1, .int .u64 a] 86)).alloc (.cells #[.int .u64 1, .int .u64 b] 86)) from J8 (J8 J0))
  go_enter Tryz.func68, Tryz.ntmps68
  have a0 := HXA.out.cell 0 (v := .int .u64 1) rfl; have a1 := HXA.out.cell 1 (v := .int .u64 a) rfl; have b0 := HXB.out.cell 0 (v := .int .u64 1) rfl; have b1 := HXB.out.cell 1 (v := .int .u64 b) rfl
  go_wp2_with fail
  clear a0 a1 b0 b1
  generalize ((w.alloc (.cells #[.int .u64 1, .int .u64 a] 86)).alloc (.cells #[.int .u64 1, .int .u64 b] 86)) = w1 at *
  refine (JF 1 a (by first | exact .inl rfl | exact .inr ⟨rfl, rfl⟩) _).mono ?_
  rintro e w2 ⟨rfl, B⟩
  have HXB2 := η (HXB.out.below B ν); have HB2 := η (HB1.out.trans (B.mono HB1.out.size)); clear B HXA HXB HB1
  have HA3 := η (show Bx (w2.alloc (.cells #[.int .u64 1, .int .u64 a] 86)) w2.heap.size #[.int .u64 1, .int .u64 a] 86 from Bx.new _ _ _)
  have HXB3 := η (HXB2.out.alloc (.cells #[.int .u64 1, .int .u64 a] 86)); have HB3 := η (HB2.out.alloc HB2.out.size (.cells #[.int .u64 1, .int .u64 a] 86))
  have b0 := HXB3.out.cell 0 (v := .int .u64 1) rfl; have b1 := HXB3.out.cell 1 (v := .int .u64 b) rfl
  go_wp2_with fail
  clear b0 b1
  generalize w2.alloc (.cells #[.int .u64 1, .int .u64 a] 86) = w3 at *
  generalize w2.heap.size = k at *
  refine (JF 1 b (by first | exact .inl rfl | exact .inr ⟨rfl, rfl⟩) _).mono ?_
  rintro e w4 ⟨rfl, B⟩
  have HA4 := η (HA3.out.below B ν); have HB4 := η (HB3.out.trans (B.mono HB3.out.size)); clear B HXB2 HXB3 HB2 HB3
  have HA5 := η (HA4.out.alloc (.cells #[.int .u64 1, .int .u64 b] 86)); have HB5 := η (HB4.out.alloc HB4.out.size (.cells #[.int .u64 1, .int .u64 b] 86))
  have HN5 := η (show Bx (w4.alloc (.cells #[.int .u64 1, .int .u64 b] 86)) w4.heap.size #[.int .u64 1, .int .u64 b] 86 from Bx.new _ _ _)
  have a0 := HA5.out.cell 0 (v := .int .u64 1) rfl; have a1 := HA5.out.cell 1 (v := .int .u64 a) rfl; have b0 := HN5.out.cell 0 (v := .int .u64 1) rfl; have b1 := HN5.out.cell 1 (v := .int .u64 b) rfl
  go_wp2_with fail
  go_ret
  exact ⟨rfl, HB5.out⟩
 ·rw [h1, h2, h3, h4, show decide (a < 18446744073709551616 ∧ a < b) = true from decide_eq_true ⟨ha, by omega⟩]
  clear h1 h2 h3 h4 ha hb
  have HXA := η (show Bx ((w.alloc (.cells #[.int .u64 1, .int .u64 a] 86)).alloc (.cells #[.int .u64 0, .int .u64 0] 86)) w.heap.size #[.int .u64 1, .int .u64 a] 86 from (Bx.new w #[.int .u64 1, .int .u64 a] 86).alloc _)
  have HXB := η (show Bx ((w.alloc (.cells #[.int .u64 1, .int .u64 a] 86)).alloc (.cells #[.int .u64 0, .int .u64 0] 86)) (w.heap.size + 1) #[.int .u64 0, .int .u64 0] 86 from Jb (by simp))
  have HB1 := η (show Below w.heap.size w ((w.alloc (.cells #[.int .u64 1, .int .u64 a] 86)).alloc (.cells #[.int .u64 0, .int .u64 0] 86)) from J8 (J8 J0))
  go_enter Tryz.func68, Tryz.ntmps68
  have a0 := HXA.out.cell 0 (v := .int .u64 1) rfl; have a1 := HXA.out.cell 1 (v := .int .u64 a) rfl; have b0 := HXB.out.cell 0 (v := .int .u64 0) rfl; have b1 := HXB.out.cell 1 (v := .int .u64 0) rfl
  go_wp2_with fail
  clear a0 a1 b0 b1
  generalize ((w.alloc (.cells #[.int .u64 1, .int .u64 a] 86)).alloc (.cells #[.int .u64 0, .int .u64 0] 86)) = w1 at *
  refine (JF 1 a (by first | exact .inl rfl | exact .inr ⟨rfl, rfl⟩) _).mono ?_
  rintro e w2 ⟨rfl, B⟩
  have HXB2 := η (HXB.out.below B ν); have HB2 := η (HB1.out.trans (B.mono HB1.out.size)); clear B HXA HXB HB1
  have HA3 := η (show Bx (w2.alloc (.cells #[.int .u64 1, .int .u64 a] 86)) w2.heap.size #[.int .u64 1, .int .u64 a] 86 from Bx.new _ _ _)
  have HXB3 := η (HXB2.out.alloc (.cells #[.int .u64 1, .int .u64 a] 86)); have HB3 := η (HB2.out.alloc HB2.out.size (.cells #[.int .u64 1, .int .u64 a] 86))
  have b0 := HXB3.out.cell 0 (v := .int .u64 0) rfl; have b1 := HXB3.out.cell 1 (v := .int .u64 0) rfl
  go_wp2_with fail
  clear b0 b1
  generalize w2.alloc (.cells #[.int .u64 1, .int .u64 a] 86) = w3 at *
  generalize w2.heap.size = k at *
  refine (JF 0 0 (by first | exact .inl rfl | exact .inr ⟨rfl, rfl⟩) _).mono ?_
  rintro e w4 ⟨rfl, B⟩
  have HA4 := η (HA3.out.below B ν); have HB4 := η (HB3.out.trans (B.mono HB3.out.size)); clear B HXB2 HXB3 HB2 HB3
  have HA5 := η (HA4.out.alloc (.cells #[.int .u64 0, .int .u64 0] 86)); have HB5 := η (HB4.out.alloc HB4.out.size (.cells #[.int .u64 0, .int .u64 0] 86))
  have HN5 := η (show Bx (w4.alloc (.cells #[.int .u64 0, .int .u64 0] 86)) w4.heap.size #[.int .u64 0, .int .u64 0] 86 from Bx.new _ _ _)
  have a0 := HA5.out.cell 0 (v := .int .u64 1) rfl; have a1 := HA5.out.cell 1 (v := .int .u64 a) rfl; have b0 := HN5.out.cell 0 (v := .int .u64 0) rfl; have b1 := HN5.out.cell 1 (v := .int .u64 0) rfl
  go_wp2_with fail
  go_ret
  exact ⟨rfl, HB5.out⟩
 ·rw [h1, h2, h3, h4, show decide (a < 18446744073709551616 ∧ a < b) = false from decide_eq_false (by omega)]
  clear h1 h2 h3 h4 ha hb
  have HXA := η (show Bx ((w.alloc (.cells #[.int .u64 0, .int .u64 0] 86)).alloc (.cells #[.int .u64 1, .int .u64 b] 86)) w.heap.size #[.int .u64 0, .int .u64 0] 86 from (Bx.new w #[.int .u64 0, .int .u64 0] 86).alloc _)
  have HXB := η (show Bx ((w.alloc (.cells #[.int .u64 0, .int .u64 0] 86)).alloc (.cells #[.int .u64 1, .int .u64 b] 86)) (w.heap.size + 1) #[.int .u64 1, .int .u64 b] 86 from Jb (by simp))
  have HB1 := η (show Below w.heap.size w ((w.alloc (.cells #[.int .u64 0, .int .u64 0] 86)).alloc (.cells #[.int .u64 1, .int .u64 b] 86)) from J8 (J8 J0))
  go_enter Tryz.func68, Tryz.ntmps68
  have a0 := HXA.out.cell 0 (v := .int .u64 0) rfl; have a1 := HXA.out.cell 1 (v := .int .u64 0) rfl; have b0 := HXB.out.cell 0 (v := .int .u64 1) rfl; have b1 := HXB.out.cell 1 (v := .int .u64 b) rfl
  go_wp2_with fail
  clear a0 a1 b0 b1
  generalize ((w.alloc (.cells #[.int .u64 0, .int .u64 0] 86)).alloc (.cells #[.int .u64 1, .int .u64 b] 86)) = w1 at *
  refine (JF 0 0 (by first | exact .inl rfl | exact .inr ⟨rfl, rfl⟩) _).mono ?_
  rintro e w2 ⟨rfl, B⟩
  have HXB2 := η (HXB.out.below B ν); have HB2 := η (HB1.out.trans (B.mono HB1.out.size)); clear B HXA HXB HB1
  have HA3 := η (show Bx (w2.alloc (.cells #[.int .u64 0, .int .u64 0] 86)) w2.heap.size #[.int .u64 0, .int .u64 0] 86 from Bx.new _ _ _)
  have HXB3 := η (HXB2.out.alloc (.cells #[.int .u64 0, .int .u64 0] 86)); have HB3 := η (HB2.out.alloc HB2.out.size (.cells #[.int .u64 0, .int .u64 0] 86))
  have b0 := HXB3.out.cell 0 (v := .int .u64 1) rfl; have b1 := HXB3.out.cell 1 (v := .int .u64 b) rfl
  go_wp2_with fail
  clear b0 b1
  generalize w2.alloc (.cells #[.int .u64 0, .int .u64 0] 86) = w3 at *
  generalize w2.heap.size = k at *
  refine (JF 1 b (by first | exact .inl rfl | exact .inr ⟨rfl, rfl⟩) _).mono ?_
  rintro e w4 ⟨rfl, B⟩
  have HA4 := η (HA3.out.below B ν); have HB4 := η (HB3.out.trans (B.mono HB3.out.size)); clear B HXB2 HXB3 HB2 HB3
  have HA5 := η (HA4.out.alloc (.cells #[.int .u64 1, .int .u64 b] 86)); have HB5 := η (HB4.out.alloc HB4.out.size (.cells #[.int .u64 1, .int .u64 b] 86))
  have HN5 := η (show Bx (w4.alloc (.cells #[.int .u64 1, .int .u64 b] 86)) w4.heap.size #[.int .u64 1, .int .u64 b] 86 from Bx.new _ _ _)
  have a0 := HA5.out.cell 0 (v := .int .u64 0) rfl; have a1 := HA5.out.cell 1 (v := .int .u64 0) rfl; have b0 := HN5.out.cell 0 (v := .int .u64 1) rfl; have b1 := HN5.out.cell 1 (v := .int .u64 b) rfl
  go_wp2_with fail
  go_ret
  exact ⟨rfl, HB5.out⟩
 ·rw [h1, h2, h3, h4, show decide (a < 18446744073709551616 ∧ a < b) = false from decide_eq_false (by omega)]
  clear h1 h2 h3 h4 ha hb
  have HXA := η (show Bx ((w.alloc (.cells #[.int .u64 0, .int .u64 0] 86)).alloc (.cells #[.int .u64 0, .int .u64 0] 86)) w.heap.size #[.int .u64 0, .int .u64 0] 86 from (Bx.new w #[.int .u64 0, .int .u64 0] 86).alloc _)
  have HXB := η (show Bx ((w.alloc (.cells #[.int .u64 0, .int .u64 0] 86)).alloc (.cells #[.int .u64 0, .int .u64 0] 86)) (w.heap.size + 1) #[.int .u64 0, .int .u64 0] 86 from Jb (by simp))
  have HB1 := η (show Below w.heap.size w ((w.alloc (.cells #[.int .u64 0, .int .u64 0] 86)).alloc (.cells #[.int .u64 0, .int .u64 0] 86)) from J8 (J8 J0))
  go_enter Tryz.func68, Tryz.ntmps68
  have a0 := HXA.out.cell 0 (v := .int .u64 0) rfl; have a1 := HXA.out.cell 1 (v := .int .u64 0) rfl; have b0 := HXB.out.cell 0 (v := .int .u64 0) rfl; have b1 := HXB.out.cell 1 (v := .int .u64 0) rfl
  go_wp2_with fail
  clear a0 a1 b0 b1
  generalize ((w.alloc (.cells #[.int .u64 0, .int .u64 0] 86)).alloc (.cells #[.int .u64 0, .int .u64 0] 86)) = w1 at *
  refine (JF 0 0 (by first | exact .inl rfl | exact .inr ⟨rfl, rfl⟩) _).mono ?_
  rintro e w2 ⟨rfl, B⟩
  have HXB2 := η (HXB.out.below B ν); have HB2 := η (HB1.out.trans (B.mono HB1.out.size)); clear B HXA HXB HB1
  have HA3 := η (show Bx (w2.alloc (.cells #[.int .u64 0, .int .u64 0] 86)) w2.heap.size #[.int .u64 0, .int .u64 0] 86 from Bx.new _ _ _)
  have HXB3 := η (HXB2.out.alloc (.cells #[.int .u64 0, .int .u64 0] 86)); have HB3 := η (HB2.out.alloc HB2.out.size (.cells #[.int .u64 0, .int .u64 0] 86))
  have b0 := HXB3.out.cell 0 (v := .int .u64 0) rfl; have b1 := HXB3.out.cell 1 (v := .int .u64 0) rfl
  go_wp2_with fail
  clear b0 b1
  generalize w2.alloc (.cells #[.int .u64 0, .int .u64 0] 86) = w3 at *
  generalize w2.heap.size = k at *
  refine (JF 0 0 (by first | exact .inl rfl | exact .inr ⟨rfl, rfl⟩) _).mono ?_
  rintro e w4 ⟨rfl, B⟩
  have HA4 := η (HA3.out.below B ν); have HB4 := η (HB3.out.trans (B.mono HB3.out.size)); clear B HXB2 HXB3 HB2 HB3
  have HA5 := η (HA4.out.alloc (.cells #[.int .u64 0, .int .u64 0] 86)); have HB5 := η (HB4.out.alloc HB4.out.size (.cells #[.int .u64 0, .int .u64 0] 86))
  have HN5 := η (show Bx (w4.alloc (.cells #[.int .u64 0, .int .u64 0] 86)) w4.heap.size #[.int .u64 0, .int .u64 0] 86 from Bx.new _ _ _)
  have a0 := HA5.out.cell 0 (v := .int .u64 0) rfl; have a1 := HA5.out.cell 1 (v := .int .u64 0) rfl; have b0 := HN5.out.cell 0 (v := .int .u64 0) rfl; have b1 := HN5.out.cell 1 (v := .int .u64 0) rfl
  go_wp2_with fail
  go_ret
  exact ⟨rfl, HB5.out⟩
theorem Zgp : (Tryz.prog.info? 86).map (fun i => (i.zero, i.size, i.bytes)) = some (some (.agg #[.int .u64 0, .int .u64 0]), 2, 16) := by kernel_rfl
def rcL (h : Nat → Int) (n : Nat) : List Value := (List.range (n * 2)).map fun j => reE h (j / 2) (j % 2)
theorem Zgq (h : Nat → Int) (n : Nat) : (rcL h n).length = n * 2 := by simp [rcL]
theorem Zb7 (h : Nat → Int) {n j : Nat} (hj : j < n * 2) : (rcL h n)[j]? = some (reE h (j / 2) (j % 2)) := by simp [rcL, hj]
theorem Zij (h : Nat → Int) (n : Nat) : rcL h n ++ [.int .u64 (rl (h n)), .int .u64 (ri (h n))] = rcL h (n + 1) := by
 have e1 : n * 2 / 2 = n := by omega
 have e2 : n * 2 % 2 = 0 := by omega
 have e3 : (n * 2 + 1) / 2 = n := by omega
 have e4 : (n * 2 + 1) % 2 = 1 := by omega
 unfold rcL
 rw [show (n + 1) * 2 = n * 2 + 1 + 1 by omega, List.range_succ, List.range_succ, List.map_append, List.map_append]
 simp only [List.map_cons, List.map_nil, e1, e2, e3, e4, List.append_assoc]
 rfl
theorem Zei {h k : Nat → Int} {n : Nat} (e : ∀ i, i < n → h i = k i) : rcL h n = rcL k n := by
 unfold rcL
 refine List.map_congr_left fun j hj => ?_
 have hj' : j < n * 2 := by simpa using hj
 unfold reE; rw [e (j / 2) (by omega)]
def OwC (w : World) (base : Nat) (x : Value) (n : Nat) (h : Nat → Int) : Prop := w.ownsRow base 86 2 x n (rcL h n)
theorem OwC.below {w w' : World} {base B n : Nat} {x : Value} {k : Nat → Int} (h : OwC w base x n k) (hb : Below B w w') (hB : w.heap.size ≤ B) : OwC w' base x n k := by
 refine ⟨h.1, ?_⟩
 rcases h.2 with h | ⟨g, c, cur, e1, e2, e3, e4⟩
 ·exact .inl h
 ·exact .inr ⟨g, c, cur, e1, e2, (show Bx w' g cur _ from Bx.below e3 hb hB), e4⟩
theorem OwC.alloc {w : World} {base n : Nat} {x : Value} {k : Nat → Int} (h : OwC w base x n k) (o : Obj) : OwC (w.alloc o) base x n k := h.below ((Below.refl w.heap.size w).alloc ν o) ν
theorem OwC.drew {w : World} {base n : Nat} {x : Value} {k : Nat → Int} (h : OwC w base x n k) : OwC w.drew base x n k := h.below (Below.refl w.heap.size w).drew ν
theorem OwC.nil (w : World) (base : Nat) (k : Nat → Int) : OwC w base (.slice none 0 0) 0 k := ⟨rfl, .inl ⟨rfl, rfl⟩⟩
theorem OwC.congr {w : World} {base n : Nat} {x : Value} {h k : Nat → Int} (a : OwC w base x n h) (e : ∀ i, i < n → h i = k i) : OwC w base x n k := by
 unfold OwC at *; rw [← Zei e]; exact a
theorem OwC.snoc {w : World} {base n m : Nat} {x : Value} {h k : Nat → Int} {y : Int} (a : w.ownsRow base 86 2 x m (rcL h n ++ [.int .u64 (rl y), .int .u64 (ri y)])) (hm : m = n + 1) (e : ∀ i, i < n → h i = k i) (ey : k n = y) : OwC w base x (n + 1) k := by
 subst hm; subst ey
 unfold OwC; rw [← Zij, ← Zei e]; exact a
theorem OwC.slice {w : World} {base n : Nat} {x : Value} {k : Nat → Int} (h : OwC w base x n k) : ∃ A c, x = .slice A n c := by
 rcases h.2 with ⟨rfl, h0⟩ | ⟨g, c, cur, rfl, _⟩
 ·rw [h0]; exact ⟨none, 0, rfl⟩
 ·exact ⟨_, _, rfl⟩
theorem OwC.rcs {w : World} {base n c : Nat} {A : Option Addr} {k : Nat → Int} (h : OwC w base (.slice A n c) n k) (hi : ∀ i, i < n → IsK (k i)) : Rcs w A n c k := by
 rcases h.2 with ⟨e, h0⟩ | ⟨g, c', cur, e1, e2, e3, e4, e5, e6, e7⟩
 ·simp at e; obtain ⟨rfl, rfl, rfl⟩ := e
  exact ⟨Nat.le_refl _, Nat.zero_le _, hi, fun h => absurd h (Nat.lt_irrefl _)⟩
 ·simp at e1; obtain ⟨rfl, rfl⟩ := e1
  refine ⟨e4, e5, hi, fun _ => ⟨g, 0, rfl, (show Bx w g cur _ from e3).lt, fun i hi' => ?_⟩⟩
  rw [Nat.zero_add, World.ownsRow.cellAt h _ (by omega), World.ownsRow.cellAt h _ (by omega), Zb7 k (by omega), Zb7 k (by omega), show i * 2 / 2 = i by omega, show i * 2 % 2 = 0 by omega, show (i * 2 + 1) / 2 = i by omega, show (i * 2 + 1) % 2 = 1 by omega]
  exact ⟨rfl, rfl⟩
theorem OwC.form {w : World} {base n : Nat} {x : Value} {k : Nat → Int} (h : OwC w base x n k) (hn : 0 < n) : ∃ g c cur, x = .slice (some ⟨g, 0, none⟩) n c ∧ base ≤ g ∧ n ≤ c ∧ c ≤ maxLen ∧ Bx w g cur 86 ∧ n * 2 ≤ cur.size := by
 rcases h.2 with ⟨_, h0⟩ | ⟨g, c, cur, e1, e2, e3, e4, e5, e6, e7⟩
 ·omega
 ·exact ⟨g, c, cur, e1, e2, e4, e5, e3, by omega⟩
theorem OwC.set {w : World} {base n c g i : Nat} {k : Nat → Int} {y : Int} (h : OwC w base (.slice (some ⟨g, 0, none⟩) n c) n k) (hi : i < n) : OwC ((w.setCell ⟨g, i * 2, none⟩ (.int .u64 (rl y))).setCell ⟨g, i * 2 + 1, none⟩ (.int .u64 (ri y))) base (.slice (some ⟨g, 0, none⟩) n c) n (updN k i y) := by
 refine ⟨Zgq _ _, ?_⟩
 rcases h.2 with ⟨e, _⟩ | ⟨g', c', cur, e1, e2, e3, e4, e5, e6, e7⟩
 ·simp at e
 ·simp at e1; obtain ⟨rfl, rfl⟩ := e1
  refine .inr ⟨g, c, _, rfl, e2, ((show Bx w g cur _ from e3).set (i * 2) (.int .u64 (rl y))).set (i * 2 + 1) (.int .u64 (ri y)), e4, e5, by simpa using e6, ?_⟩
  refine List.ext_getElem? fun j => ?_
  by_cases hj : j < n * 2
  ·have hc : cur[j]? = (rcL k n)[j]? := by rw [← e7, List.getElem?_take_of_lt hj, Array.getElem?_toList]
   rw [Zb7 _ hj] at hc
   rw [List.getElem?_take_of_lt hj, Array.getElem?_toList, Zb7 _ hj, Array.getElem?_setIfInBounds, Array.getElem?_setIfInBounds, hc]
   unfold reE updN
   have hs : n * 2 ≤ cur.size := by omega
   by_cases h1 : i * 2 + 1 = j
   ·subst h1
    simp [show (i * 2 + 1) % 2 = 1 by omega, show (i * 2 + 1) / 2 = i by omega]; omega
   ·by_cases h2 : i * 2 = j
    ·subst h2
     simp [show i * 2 % 2 = 0 by omega, show i * 2 / 2 = i by omega]; omega
    ·rw [if_neg h1, if_neg h2, if_neg (show ¬ j / 2 = i by omega)]
  ·rw [List.getElem?_eq_none (by simp; omega), List.getElem?_eq_none (by rw [Zgq]; omega)]
theorem OwC.setOther {w : World} {base b i n : Nat} {x y : Value} {k : Nat → Int} (h : OwC w base x n k) (hb : b < base) : OwC (w.setCell ⟨b, i, none⟩ y) base x n k := by
 refine ⟨h.1, ?_⟩
 rcases h.2 with h | ⟨g, c, cur, e1, e2, e3, e4⟩
 ·exact .inl h
 ·exact .inr ⟨g, c, cur, e1, e2, (Bx.other e3 _ (by show g ≠ b; omega)), e4⟩
set_option maxRecDepth 100000 in
theorem Zg4 (A : Option Addr) (n c : Nat) (h : Nat → Int) (hn : n ≤ 10000) (w : World) (hr : Rcs w A n c h) :
  Calls Tryz.prog 42 #[.slice A n c] w fun e w' => e = .returned (.int .u64 ((Jy h n : Nat) : Int)) ∧ Below w.heap.size w w' := by
 have HR := η hr; have hcp := hr.cap; have hmx := hr.max; clear hr
 unfold maxLen at hmx
 go_enter Tryz.func42, Tryz.ntmps42
 go_wp2_with fail
 go_loopw [3, 4] (fun cr ir wr => ∃ k s : Nat, k ≤ n ∧ s = Jy h k ∧ cr = .int .u64 (s : Int) ∧ ir = .int .i64 (k : Int) ∧ Below w.heap.size w wr) (fun _ i _ => n - (intOf i).toNat)
 case atStart => exact ⟨0, 0, Nat.zero_le _, rfl, rfl, rfl, J0⟩
 case round =>
  obtain ⟨k, s, hk, hs, rfl, rfl, hb⟩ := hrel
  have HB := η hb; have HS := η hs; have HSL := η (show s ≤ k from by rw [hs]; exact Zas h k); clear hb hs
  by_cases hlt : k < n
  ·obtain ⟨b, off, rfl, hbl, hc⟩ := HR.out.at_ (by omega)
   have c0 : wr.cell? ⟨b, off + k * 2, none⟩ = some (.int .u64 (rl (h k))) := (HB.out.cell (p := ⟨b, off + k * 2, none⟩) hbl).trans (hc k hlt).1
   have hms := η (show n - (intOf (.int .i64 ((k : Int) + 1))).toNat < n - (intOf (.int .i64 (k : Int))).toNat from by simp [intOf]; omega)
   obtain ⟨x, hx⟩ : ∃ x, x = rl (h k) := ⟨_, rfl⟩
   have hxr : x = 0 ∨ x = 1 := by rw [hx]; exact ZaO _
   have HXX := η hx
   rw [← hx] at c0
   clear hbl hc hx
   have hs10 := HSL.out
   rcases hxr with rfl | rfl
   ·have e1 : IntKind.u64.wrap ((s : Int) + 0) = (s : Int) + 0 := by rw [IntKind.wrap_u64]; omega
    go_wp2_with fail
    go_roundw
    case rel =>
     refine ⟨k + 1, s + 0, hlt, ?_, by first | rfl | simp, by go_num, HB.out⟩
     rw [Jy, ← HS.out]; have := HXX.out; unfold rl at this; split at this <;> simp_all
    case measure => exact hms.out
   ·have e1 : IntKind.u64.wrap ((s : Int) + 1) = (s : Int) + 1 := by rw [IntKind.wrap_u64]; omega
    go_wp2_with fail
    go_roundw
    case rel =>
     refine ⟨k + 1, s + 1, hlt, ?_, by first | rfl | simp, by go_num, HB.out⟩
     rw [Jy, ← HS.out]; have := HXX.out; unfold rl at this; split at this <;> simp_all
    case measure => exact hms.out
  ·obtain rfl : k = n := by omega
   go_wp2_with fail
   go_ret
   exact ⟨congrArg (fun q : Nat => Ending.returned (Value.int .u64 (q : Int))) HS.out, HB.out⟩
theorem OwC.at_ {w : World} {base n c g i : Nat} {k : Nat → Int} (h : OwC w base (.slice (some ⟨g, 0, none⟩) n c) n k) (hi : i < n) : w.cell? ⟨g, i * 2, none⟩ = some (.int .u64 (rl (k i))) ∧ w.cell? ⟨g, i * 2 + 1, none⟩ = some (.int .u64 (ri (k i))) ∧ w.frozen? ⟨g, i * 2, none⟩ = false ∧ w.frozen? ⟨g, i * 2 + 1, none⟩ = false := by
 obtain ⟨g', c', cur, e, _, _, _, hb, _⟩ := h.form (by omega)
 simp at e; obtain ⟨rfl, rfl⟩ := e
 rw [World.ownsRow.cellAt h _ (by omega), World.ownsRow.cellAt h _ (by omega), Zb7 k (by omega), Zb7 k (by omega), show i * 2 / 2 = i by omega, show i * 2 % 2 = 0 by omega, show (i * 2 + 1) / 2 = i by omega, show (i * 2 + 1) % 2 = 1 by omega]
 exact ⟨rfl, rfl, hb.free _, hb.free _⟩
def shf (f : Nat → Int) (y : Int) (k m : Nat) (i : Nat) : Int := if i ≤ m then (if i < k then f i else y) else f (i - 1)
theorem Zik (f : Nat → Int) (y : Int) {k m : Nat} (h0 : 0 < m) (hm : m ≤ k) : ∀ i, updN (shf f y k m) m (f (m - 1)) i = shf f y k (m - 1) i := by
 intro i
 unfold updN shf
 rcases (by omega : i = m ∨ i < m ∨ m < i) with rfl | h | h
 ·rw [if_pos rfl, if_neg (by omega)]
 ·rw [if_neg (by omega), if_pos (by omega), if_pos (by omega), if_pos (by omega)]
 ·rw [if_neg (by omega), if_neg (by omega), if_neg (by omega)]
theorem ZfA (f : Nat → Int) (y : Int) {k j : Nat} (hj : j ≤ k) : ∀ i, i < k + 1 → updN (shf f y k j) j y i = insN f j y i := by
 intro i hi
 unfold updN shf insN
 rcases (by omega : i = j ∨ i < j ∨ j < i) with rfl | h | h
 ·rw [if_pos rfl, if_neg (by omega), if_pos rfl]
 ·rw [if_neg (by omega), if_pos (by omega), if_pos (by omega), if_pos h]
 ·rw [if_neg (by omega), if_neg (by omega), if_neg (by omega), if_neg (by omega)]
set_option maxRecDepth 100000 in
theorem ZgS (A : Option Addr) (n c : Nat) (h : Nat → Int) (hn : n ≤ 1000) (w : World) (hr : Rcs w A n c h) :
  Calls Tryz.prog 41 #[.slice A n c] w fun e w' => (∃ v' k', e = .returned v' ∧ IsSort h n k' ∧ (∀ i, i < n → IsK (k' i)) ∧ OwC w' w.heap.size v' n k') ∧ Below w.heap.size w w' := by
 obtain ⟨i0, hi0, hz0, hz1, hz2⟩ := info_parts Zgp
 have HR := η hr; have hcp := hr.cap; have hmx := hr.max; clear hr
 unfold maxLen at hmx
 go_enter Tryz.func41, Tryz.ntmps41
 go_wp2_with fail
 go_loopw [3, 4] (fun vr ir wr => ∃ (k : Nat) (f : Nat → Int), k ≤ n ∧ ir = .int .i64 (k : Int) ∧ OwC wr w.heap.size vr k f ∧ IsSort h k f ∧ (∀ i, i < k → IsK (f i)) ∧ Below w.heap.size w wr) (fun _ i _ => n - (intOf i).toNat)
 case atStart => exact ⟨0, fun _ => 0, Nat.zero_le _, rfl, OwC.nil _ _ _, IsSort.nil _ _, fun i hi => absurd hi (Nat.not_lt_zero _), J0⟩
 case round =>
  obtain ⟨k, f, hk, rfl, hov, hs, hik, hb⟩ := hrel
  obtain ⟨VA, vc, rfl⟩ := hov.slice
  have HB := η hb; have HS := η hs; have HIK := η hik; have HOV := η hov; clear hb hs hik hov
  by_cases hlt : k < n
  ·obtain ⟨b, off, rfl, hbl, hc⟩ := HR.out.at_ (by omega)
   have c0 : wr.cell? ⟨b, off + k * 2, none⟩ = some (.int .u64 (rl (h k))) := (HB.out.cell (p := ⟨b, off + k * 2, none⟩) hbl).trans (hc k hlt).1
   have c1 : wr.cell? ⟨b, off + k * 2 + 1, none⟩ = some (.int .u64 (ri (h k))) := (HB.out.cell (p := ⟨b, off + k * 2 + 1, none⟩) hbl).trans (hc k hlt).2
   have HKH := η (HR.out.isk k hlt)
   have hms := η (show n - (intOf (.int .i64 ((k : Int) + 1))).toNat < n - (intOf (.int .i64 (k : Int))).toNat from by simp [intOf]; omega)
   clear hbl hc
   go_wp2_with fail
   clear c0 c1
   refine (Zg3 (h k) _).mono ?_
   rintro e w2 ⟨rfl, B⟩
   have HX := η (show Bx (w2.alloc (.cells #[.int .u64 (rl (h k)), .int .u64 (ri (h k))] 86)) w2.heap.size #[.int .u64 (rl (h k)), .int .u64 (ri (h k))] 86 from Bx.new _ _ _)
   have HOV3 := η (show OwC (w2.alloc (.cells #[.int .u64 (rl (h k)), .int .u64 (ri (h k))] 86)) w.heap.size (.slice VA k vc) k f from (HOV.out.below B ν).alloc _)
   have HB3 := η (show Below w.heap.size w (w2.alloc (.cells #[.int .u64 (rl (h k)), .int .u64 (ri (h k))] 86)) from J8 (HB.out.trans (B.mono HB.out.size)))
   have HXB := η (show w.heap.size ≤ w2.heap.size from Nat.le_trans HB.out.size B.size)
   have HGX := η (show ∀ e, (Value.slice VA k vc).ownBlock = some e → e < w2.heap.size from fun e he => by
    obtain ⟨_, cur, h5⟩ := Jv HOV.out he
    have h6 := (Array.getElem?_eq_some_iff.1 h5).1; have h7 := B.size; omega)
   clear B HOV HB
   go_wp2_with fail
   generalize (w2.alloc (.cells #[.int .u64 (rl (h k)), .int .u64 (ri (h k))] 86)) = w3 at *
   generalize w2.heap.size = xb at *
   have HRC := η (HOV3.out.rcs HIK.out)
   go_loopw [6] (fun jr wr2 => ∃ j : Nat, j ≤ k ∧ jr = .int .i64 (j : Int) ∧ (∀ i, i < j → f i ≤ h k) ∧ Below w3.heap.size w3 wr2) (fun jr _ => k - (intOf jr).toNat)
   case atStart => exact ⟨0, Nat.zero_le _, rfl, fun i hi => absurd hi (Nat.not_lt_zero _), J0⟩
   case round =>
    obtain ⟨j, hj, rfl, hle, hb2⟩ := hrel
    have HB2 := η hb2; have HLE := η hle; clear hb2 hle
    by_cases hjk : j < k
    ·obtain ⟨g, o, rfl, hgl, hgc⟩ := HRC.out.at_ (by omega)
     have hm1 := η (show k - (intOf (.int .i64 ((j : Int) + 1))).toNat < k - (intOf (.int .i64 (j : Int))).toNat from by simp [intOf]; omega)
     have QC := η (show ∀ w', Below w3.heap.size w3 w' → (w'.cell? ⟨xb, 0, none⟩ = some (.int .u64 (rl (h k))) ∧ w'.cell? ⟨xb, 1, none⟩ = some (.int .u64 (ri (h k))) ∧ w'.cell? ⟨g, o + j * 2, none⟩ = some (.int .u64 (rl (f j))) ∧ w'.cell? ⟨g, o + j * 2 + 1, none⟩ = some (.int .u64 (ri (f j)))) from fun w' hb =>
      ⟨(HX.out.below hb ν).cell 0 rfl, (HX.out.below hb ν).cell 1 rfl, (hb.cell (p := ⟨g, o + j * 2, none⟩) hgl).trans (hgc j hjk).1, (hb.cell (p := ⟨g, o + j * 2 + 1, none⟩) hgl).trans (hgc j hjk).2⟩)
     clear hgl hgc
     by_cases hl : h k < 18446744073709551616 ∧ h k < f j
     ·skip
      go_wp2_with fail
      refine wp_region_held_drew (S := fun w' => (w'.cell? ⟨xb, 0, none⟩ = some (.int .u64 (rl (h k))) ∧ w'.cell? ⟨xb, 1, none⟩ = some (.int .u64 (ri (h k))) ∧ w'.cell? ⟨g, o + j * 2, none⟩ = some (.int .u64 (rl (f j))) ∧ w'.cell? ⟨g, o + j * 2 + 1, none⟩ = some (.int .u64 (ri (f j))))) (by kernel_rfl) (QC.out _ HB2.out.drew) (fun hHeld => ?_)
      refine tk 0 hHeld ?_
      refine tk 1 hHeld ?_
      refine tk 2 hHeld ?_
      refine tk 3 hHeld ?_
      refine tk 4 hHeld ?_
      refine tk 5 hHeld ?_
      refine tk 6 hHeld ?_
      refine tk 7 hHeld ?_
      refine tk 8 hHeld ?_
      refine tk 9 hHeld ?_
      refine cl 10 (fun K hK => ?_)
      go_simp
      refine (Zdy (h k) (f j) _).mono ?_
      rintro e w5 ⟨rfl, B⟩
      rw [decide_eq_true hl]
      have HB5 := η (HB2.out.drew.trans (B.mono HB2.out.drew.size)); clear B
      go_wp2_with fail
      refine hK.out _ _ (QC.out _ HB5.out) (fun hHeld2 => ?_)
      clear hK K hHeld; have hHeld := hHeld2; clear hHeld2
      try simp only [Act.put, List.setIfInBounds_toArray, List.set_cons_zero, List.set_cons_succ]
      refine tk 11 hHeld ?_
      refine tk 12 hHeld ?_
      refine wpAnyH_done (by kernel_rfl) ?_ _
      clear hHeld
      have HT := η (show Below w3.heap.size w3 w5 from HB5.out)
      have HX6 := η (HX.out.below HT.out ν); have HOV6 := η (HOV3.out.below HT.out ν); have HB6 := η (HB3.out.trans (HT.out.mono HB3.out.size))
      clear HT
      generalize w5 = w6 at *
      have c0 := HX6.out.cell 0 (v := .int .u64 (rl (h k))) rfl; have c1 := HX6.out.cell 1 (v := .int .u64 (ri (h k))) rfl
      go_wp2_with (at_builtin; refine wpList_append_own_at _ rfl _ _ 53 rfl w.heap.size 86 i0 (.agg #[.int .u64 0, .int .u64 0]) 2 16 Tryz.underlying53 hi0 hz0 hz1 hz2 rfl (by decide) _ _ _ rfl (HOV6.out.alloc (.cells #[.int .u64 (rl (h k)), .int .u64 (ri (h k))] 86)) ⟨w6.heap.size, 0, none⟩ 1 1 [.int .u64 (rl (h k)), .int .u64 (ri (h k))] rfl rfl ?c1 ?c2 ?c3 ?c4 ?c5 ?_)
      case c1 => exact JE (by simp) _ _ _
      case c2 => simp [Value.oneCell']
      case c3 => unfold maxLen; omega
      case c4 => omega
      case c5 => exact Nat.le_trans HB6.out.size (by simp)
      intro v' w7 hown2 hgrow _ hblk
      clear c0 c1
      have HOF := η (show OwC w7 w.heap.size v' (k + 1) (shf f (h k) k k) from OwC.snoc (h := f) hown2 rfl (fun i hi => by unfold shf; rw [if_pos (by omega), if_pos hi]) (by unfold shf; rw [if_pos ν, if_neg (Nat.lt_irrefl _)]))
      obtain ⟨g2, c2, cur2, rfl, hg2b, hc2, hm2, -, -⟩ := HOF.out.form (by omega)
      have hne : g2 ≠ xb := by
       have h1 := HX6.out.lt
       rcases hblk with e | e
       ·have := HGX.out g2 (e.symm.trans rfl); omega
       ·simp [Value.ownBlock] at e; omega
      have HX7 := η (show Bx w7 xb #[.int .u64 (rl (h k)), .int .u64 (ri (h k))] 86 from (hgrow.block xb (by have := HX6.out.lt; simp; omega) (fun e => by have := HGX.out xb e.symm; omega)).trans (HX6.out.alloc _))
      have HB7 := η ((show Below w.heap.size w (w6.alloc (.cells #[.int .u64 (rl (h k)), .int .u64 (ri (h k))] 86)) from J8 HB6.out).grown hgrow (Nat.le_trans HB6.out.size (by simp)) (fun q e => (Jv (show World.ownsRow _ _ _ _ _ _ _ from HOV6.out.alloc (.cells #[.int .u64 (rl (h k)), .int .u64 (ri (h k))] 86)) e).1))
      clear hown2 hgrow hblk HX6 HOV6 HB6
      unfold maxLen at hm2
      go_wp2_with fail
      go_loopw [7] (fun mr wr3 => ∃ m : Nat, j ≤ m ∧ m ≤ k ∧ mr = .int .i64 (m : Int) ∧ OwC wr3 w.heap.size (.slice (some ⟨g2, 0, none⟩) (k + 1) c2) (k + 1) (shf f (h k) k m) ∧ Bx wr3 xb #[.int .u64 (rl (h k)), .int .u64 (ri (h k))] 86 ∧ Below w.heap.size w wr3) (fun mr _ => (intOf mr).toNat)
      case atStart => exact ⟨k, by omega, Nat.le_refl _, by first | rfl | go_num, HOF.out, HX7.out, HB7.out⟩
      case round =>
       clear HOF HX7 HB7
       obtain ⟨m, hjm, hmk, rfl, ho3, hx3, hb3⟩ := hrel
       have HO3 := η ho3; have HX3 := η hx3; have HB3_ := η hb3; clear ho3 hx3 hb3
       by_cases hm : j < m
       ·obtain ⟨q, rfl⟩ : ∃ q, m = q + 1 := ⟨m - 1, by omega⟩
        obtain ⟨a0, a1, -, -⟩ := HO3.out.at_ (i := q) (by omega)
        obtain ⟨b0, b1, z0, z1⟩ := HO3.out.at_ (i := q + 1) (by omega)
        have e1 : shf f (h k) k (q + 1) q = f q := by unfold shf; rw [if_pos (by omega), if_pos (by omega)]
        rw [e1] at a0 a1; clear e1
        have hm3 := η (show (intOf (.int .i64 (q : Int))).toNat < (intOf (.int .i64 ((q : Int) + 1))).toNat from by simp [intOf])
        go_wp2_with fail
        go_roundw
        case rel => exact ⟨q, by omega, by omega, by go_num, (HO3.out.set (y := f q) (i := q + 1) (by omega)).congr (fun i _ => Zik f (h k) (Nat.succ_pos q) hmk i), (HX3.out.other _ hne.symm).other _ hne.symm, J9 hg2b (J9 hg2b HB3_.out)⟩
        case measure => exact hm3.out
       ·obtain rfl : j = m := by omega
        obtain ⟨b0, b1, z0, z1⟩ := HO3.out.at_ (i := j) (by omega)
        have c0 := HX3.out.cell 0 (v := .int .u64 (rl (h k))) rfl; have c1 := HX3.out.cell 1 (v := .int .u64 (ri (h k))) rfl
        go_wp2_with fail
        go_roundw
        case rel =>
         exact ⟨k + 1, insN f j (h k), hlt, by go_num, (HO3.out.set (y := h k) (i := j) (by omega)).congr (fun i hi => ZfA f (h k) hmk i hi), HS.out.ins hmk HLE.out (by intro _; omega), (fun i hi => by
          unfold insN; split
          ·exact HIK.out i (by omega)
          ·split
           ·exact HKH.out
           ·exact HIK.out (i - 1) (by omega)), J9 hg2b (J9 hg2b HB3_.out)⟩
        case measure => exact hms.out
     ·skip
      go_wp2_with fail
      refine wp_region_held_drew (S := fun w' => (w'.cell? ⟨xb, 0, none⟩ = some (.int .u64 (rl (h k))) ∧ w'.cell? ⟨xb, 1, none⟩ = some (.int .u64 (ri (h k))) ∧ w'.cell? ⟨g, o + j * 2, none⟩ = some (.int .u64 (rl (f j))) ∧ w'.cell? ⟨g, o + j * 2 + 1, none⟩ = some (.int .u64 (ri (f j))))) (by kernel_rfl) (QC.out _ HB2.out.drew) (fun hHeld => ?_)
      refine tk 0 hHeld ?_
      refine tk 1 hHeld ?_
      refine tk 2 hHeld ?_
      refine tk 3 hHeld ?_
      refine tk 4 hHeld ?_
      refine tk 5 hHeld ?_
      refine tk 6 hHeld ?_
      refine tk 7 hHeld ?_
      refine tk 8 hHeld ?_
      refine tk 9 hHeld ?_
      refine cl 10 (fun K hK => ?_)
      go_simp
      refine (Zdy (h k) (f j) _).mono ?_
      rintro e w5 ⟨rfl, B⟩
      rw [decide_eq_false hl]
      have HB5 := η (HB2.out.drew.trans (B.mono HB2.out.drew.size)); clear B
      go_wp2_with fail
      refine hK.out _ _ (QC.out _ HB5.out) (fun hHeld2 => ?_)
      clear hK K hHeld; have hHeld := hHeld2; clear hHeld2
      try simp only [Act.put, List.setIfInBounds_toArray, List.set_cons_zero, List.set_cons_succ]
      refine tk 11 hHeld ?_
      refine tk 12 hHeld ?_
      refine wpAnyH_done (by kernel_rfl) ?_ _
      clear hHeld
      have hf := HIK.out j hjk
      have hle1 : f j ≤ h k := by unfold IsK at hf; omega
      go_wp2_with fail
      go_roundw
      case rel => exact ⟨j + 1, hjk, by go_num, fun i hi => by
       rcases (by omega : i < j ∨ i = j) with h1 | rfl
       ·exact HLE.out i h1
       ·exact hle1, HB5.out⟩
      case measure => exact hm1.out
    ·obtain rfl : k = j := by omega
     go_wp2_with fail
     refine wp_region_held_drew (S := fun w' => True) (by kernel_rfl) (trivial) (fun hHeld => ?_)
     refine tk 0 hHeld ?_
     refine tk 1 hHeld ?_
     refine tk 2 hHeld ?_
     refine tk 3 hHeld ?_
     refine tk 4 hHeld ?_
     refine tg 5 hHeld ?_
     refine tg 6 hHeld ?_
     refine tg 7 hHeld ?_
     refine tg 8 hHeld ?_
     refine tg 9 hHeld ?_
     refine tg 10 hHeld ?_
     refine tg 11 hHeld ?_
     refine tk 12 hHeld ?_
     refine wpAnyH_done (by kernel_rfl) ?_ _
     clear hHeld
     have HT := η (show Below w3.heap.size w3 wr.drew from HB2.out.drew)
     have HX6 := η (HX.out.below HT.out ν); have HOV6 := η (HOV3.out.below HT.out ν); have HB6 := η (HB3.out.trans (HT.out.mono HB3.out.size))
     clear HT
     generalize wr.drew = w6 at *
     have c0 := HX6.out.cell 0 (v := .int .u64 (rl (h k))) rfl; have c1 := HX6.out.cell 1 (v := .int .u64 (ri (h k))) rfl
     go_wp2_with (at_builtin; refine wpList_append_own_at _ rfl _ _ 53 rfl w.heap.size 86 i0 (.agg #[.int .u64 0, .int .u64 0]) 2 16 Tryz.underlying53 hi0 hz0 hz1 hz2 rfl (by decide) _ _ _ rfl (HOV6.out.alloc (.cells #[.int .u64 (rl (h k)), .int .u64 (ri (h k))] 86)) ⟨w6.heap.size, 0, none⟩ 1 1 [.int .u64 (rl (h k)), .int .u64 (ri (h k))] rfl rfl ?c1 ?c2 ?c3 ?c4 ?c5 ?_)
     case c1 => exact JE (by simp) _ _ _
     case c2 => simp [Value.oneCell']
     case c3 => unfold maxLen; omega
     case c4 => omega
     case c5 => exact Nat.le_trans HB6.out.size (by simp)
     intro v' w7 hown2 hgrow _ hblk
     clear c0 c1
     have HOF := η (show OwC w7 w.heap.size v' (k + 1) (shf f (h k) k k) from OwC.snoc (h := f) hown2 rfl (fun i hi => by unfold shf; rw [if_pos (by omega), if_pos hi]) (by unfold shf; rw [if_pos ν, if_neg (Nat.lt_irrefl _)]))
     obtain ⟨g2, c2, cur2, rfl, hg2b, hc2, hm2, -, -⟩ := HOF.out.form (by omega)
     have hne : g2 ≠ xb := by
      have h1 := HX6.out.lt
      rcases hblk with e | e
      ·have := HGX.out g2 (e.symm.trans rfl); omega
      ·simp [Value.ownBlock] at e; omega
     have HX7 := η (show Bx w7 xb #[.int .u64 (rl (h k)), .int .u64 (ri (h k))] 86 from (hgrow.block xb (by have := HX6.out.lt; simp; omega) (fun e => by have := HGX.out xb e.symm; omega)).trans (HX6.out.alloc _))
     have HB7 := η ((show Below w.heap.size w (w6.alloc (.cells #[.int .u64 (rl (h k)), .int .u64 (ri (h k))] 86)) from J8 HB6.out).grown hgrow (Nat.le_trans HB6.out.size (by simp)) (fun q e => (Jv (show World.ownsRow _ _ _ _ _ _ _ from HOV6.out.alloc (.cells #[.int .u64 (rl (h k)), .int .u64 (ri (h k))] 86)) e).1))
     clear hown2 hgrow hblk HX6 HOV6 HB6
     unfold maxLen at hm2
     go_wp2_with fail
     go_loopw [7] (fun mr wr3 => ∃ m : Nat, k ≤ m ∧ m ≤ k ∧ mr = .int .i64 (m : Int) ∧ OwC wr3 w.heap.size (.slice (some ⟨g2, 0, none⟩) (k + 1) c2) (k + 1) (shf f (h k) k m) ∧ Bx wr3 xb #[.int .u64 (rl (h k)), .int .u64 (ri (h k))] 86 ∧ Below w.heap.size w wr3) (fun mr _ => (intOf mr).toNat)
     case atStart => exact ⟨k, by omega, Nat.le_refl _, by first | rfl | go_num, HOF.out, HX7.out, HB7.out⟩
     case round =>
      clear HOF HX7 HB7
      obtain ⟨m, hjm, hmk, rfl, ho3, hx3, hb3⟩ := hrel
      have HO3 := η ho3; have HX3 := η hx3; have HB3_ := η hb3; clear ho3 hx3 hb3
      by_cases hm : k < m
      ·omega
      ·obtain rfl : k = m := by omega
       obtain ⟨b0, b1, z0, z1⟩ := HO3.out.at_ (i := k) (by omega)
       have c0 := HX3.out.cell 0 (v := .int .u64 (rl (h k))) rfl; have c1 := HX3.out.cell 1 (v := .int .u64 (ri (h k))) rfl
       go_wp2_with fail
       go_roundw
       case rel =>
        exact ⟨k + 1, insN f k (h k), hlt, by go_num, (HO3.out.set (y := h k) (i := k) (by omega)).congr (fun i hi => ZfA f (h k) hmk i hi), HS.out.ins hmk HLE.out (by intro _; omega), (fun i hi => by
         unfold insN; split
         ·exact HIK.out i (by omega)
         ·split
          ·exact HKH.out
          ·exact HIK.out (i - 1) (by omega)), J9 hg2b (J9 hg2b HB3_.out)⟩
       case measure => exact hms.out
  ·obtain rfl : k = n := by omega
   go_wp2_with fail
   go_ret
   exact ⟨⟨_, f, rfl, HS.out, HIK.out, HOV.out⟩, HB.out⟩
theorem OwC.setNe {w : World} {base b i n : Nat} {x y : Value} {k : Nat → Int} (h : OwC w base x n k) (hne : ∀ e, x.ownBlock = some e → e < b) : OwC (w.setCell ⟨b, i, none⟩ y) base x n k := by
 refine ⟨h.1, ?_⟩
 rcases h.2 with h | ⟨g, c, cur, e1, e2, e3, e4⟩
 ·exact .inl h
 ·exact .inr ⟨g, c, cur, e1, e2, (Bx.other e3 _ (by have := hne g (by rw [e1]; rfl); show g ≠ b; omega)), e4⟩
set_option maxRecDepth 100000 in
theorem ZeK (A : Option Addr) (n c : Nat) (d : Nat → Bool) (v : Nat → Int) (Q : Nat → Option Addr × Nat × Nat) (F G : Nat → Nat → Int) (QA : Option Addr) (qn qc : Nat) (qf qg qd : Nat → Int) (h0 : 1 ≤ qn) (h9 : qn ≤ 1000) (V : Bool) (K : Nat → Int) (hV : allB (vR v Q F G) n = V) (hK : ∀ i, K i = keyQ (V && memR d (lR v Q F G (qf i) (qg i)) n) (qd i)) (w : World) (hr : Rgs w A n c d v Q) (hp : RgP w n Q F G) (ho : OkR n v Q) (hq : Qus w QA qn qc qf qg qd) :
  Calls Tryz.prog 40 #[.slice A n c, .slice QA qn qc] w fun e w' => (∃ v', e = .returned v' ∧ OwC w' w.heap.size v' qn K) ∧ Below w.heap.size w w' := by
 obtain ⟨i0, hi0, hz0, hz1, hz2⟩ := info_parts Zgp
 have HR := η hr; have HP := η hp; have HO := η ho; have HQ := η hq
 have hcp := hq.cap; have hmx := hq.max; unfold maxLen at hmx
 obtain ⟨qb, qo, rfl, hqb, hqc⟩ := hq.at_ (by omega)
 have HQC := η hqc; have HQB := η hqb
 have HV := η hV; have HK := η hK
 clear hr hp ho hq hqc hqb hV hK
 go_enter Tryz.func40, Tryz.ntmps40
 go_wp2_with fail
 refine (Zak A n c d v Q _ HR.out).mono ?_
 rintro e w1 ⟨⟨z, rfl, hz⟩, B⟩
 obtain rfl : z = 0 := hz.2 HO.out
 have HB1 := η B; clear B hz
 have q1 : ¬ ((qn : Int) < 1) := by omega
 have q2 : ¬ ((4096 : Int) < qn) := by omega
 go_wp2_with fail
 refine (ZcM A n c d v Q F G _ (HR.out.below HB1.out ν) (HP.out.below HB1.out ν) HO.out).mono ?_
 rintro e w2 ⟨rfl, B⟩
 rw [HV.out]
 have HB2 := η (HB1.out.trans (B.mono HB1.out.size)); clear B HB1 q1 q2
 go_wp2_with fail
 go_loopw [6, 7] (fun vr ir wr => ∃ k : Nat, k ≤ qn ∧ ir = .int .i64 (k : Int) ∧ OwC wr w.heap.size vr k K ∧ Below w.heap.size w wr) (fun _ i _ => qn - (intOf i).toNat)
 case atStart => exact ⟨0, Nat.zero_le _, rfl, OwC.nil _ _ _, HB2.out⟩
 case round =>
  clear HB2
  obtain ⟨k, hk, rfl, hov, hb⟩ := hrel
  obtain ⟨VA, vc, rfl⟩ := hov.slice
  have HB := η hb; have HOV := η hov; clear hb hov
  by_cases hlt : k < qn
  ·have HIS := η (HQ.out.isi k hlt)
   have hms := η (show qn - (intOf (.int .i64 ((k : Int) + 1))).toNat < qn - (intOf (.int .i64 (k : Int))).toNat from by simp [intOf]; omega)
   have QC := η (show ∀ w', Below w.heap.size w w' → (w'.cell? ⟨qb, qo + k * 3, none⟩ = some (.int .i64 (qf k)) ∧ w'.cell? ⟨qb, qo + k * 3 + 1, none⟩ = some (.int .i64 (qg k)) ∧ w'.cell? ⟨qb, qo + k * 3 + 2, none⟩ = some (.int .u64 (qd k))) from fun w' hb =>
    ⟨(hb.cell (p := ⟨qb, qo + k * 3, none⟩) HQB.out).trans (HQC.out k hlt).1, (hb.cell (p := ⟨qb, qo + k * 3 + 1, none⟩) HQB.out).trans (HQC.out k hlt).2.1, (hb.cell (p := ⟨qb, qo + k * 3 + 2, none⟩) HQB.out).trans (HQC.out k hlt).2.2⟩)
   have HKK := η (HK.out k)
   rcases V with _ | _
   ·have HX1 := η (show Bx (wr.alloc (.cells #[.int .u64 0, .int .u64 0] 86)) wr.heap.size #[.int .u64 0, .int .u64 0] 86 from Bx.new _ _ _)
    have HOV1 := η (HOV.out.alloc (.cells #[.int .u64 0, .int .u64 0] 86)); have HB1 := η (show Below w.heap.size w (wr.alloc (.cells #[.int .u64 0, .int .u64 0] 86)) from J8 HB.out)
    clear HOV HB
    have r1 : rl (K k) = 0 := by rw [HKK.out]; simp [keyQ, rl]
    have r2 : ri (K k) = 0 := by rw [HKK.out]; simp [keyQ, ri]
    have HX5 := HX1; have HOV5 := HOV1; have HB5 := HB1
    clear HX1 HOV1 HB1
    have c0 := HX5.out.cell 0 (v := .int .u64 0) rfl; have c1 := HX5.out.cell 1 (v := .int .u64 0) rfl
    go_wp2_with (at_builtin; refine wpList_append_own_at _ rfl _ _ 53 rfl w.heap.size 86 i0 (.agg #[.int .u64 0, .int .u64 0]) 2 16 Tryz.underlying53 hi0 hz0 hz1 hz2 rfl (by decide) _ _ _ rfl (HOV5.out.alloc (.cells #[.int .u64 0, .int .u64 0] 86)) ⟨wr.heap.size + 1, 0, none⟩ 1 1 [.int .u64 0, .int .u64 0] rfl rfl ?c1 ?c2 ?c3 ?c4 ?c5 ?_)
    case c1 => exact JE (by simp) _ _ _
    case c2 => simp [Value.oneCell']
    case c3 => unfold maxLen; omega
    case c4 => omega
    case c5 => exact Nat.le_trans HB5.out.size (by simp)
    intro v' w7 hown2 hgrow _ _
    clear c0 c1
    have HOF := η (show OwC w7 w.heap.size v' (k + 1) K from OwC.snoc (h := K) (y := K k) (by rw [r1, r2]; exact hown2) rfl (fun _ _ => rfl) rfl)
    have HB7 := η ((show Below w.heap.size w ((wr.alloc (.cells #[.int .u64 0, .int .u64 0] 86)).alloc (.cells #[.int .u64 0, .int .u64 0] 86)) from J8 HB5.out).grown hgrow (Nat.le_trans HB5.out.size (by simp)) (fun q e => (Jv (show World.ownsRow _ _ _ _ _ _ _ from HOV5.out.alloc (.cells #[.int .u64 0, .int .u64 0] 86)) e).1))
    clear hown2 hgrow HX5 HOV5 HB5
    go_wp2_with fail
    go_roundw
    case rel => exact ⟨k + 1, hlt, by go_num, HOF.out, HB7.out⟩
    case measure => exact hms.out
   ·have HVX := η (show ∀ e, (Value.slice VA k vc).ownBlock = some e → e < wr.heap.size from fun e he => by
     obtain ⟨_, cur, h5⟩ := Jv HOV.out he
     exact (Array.getElem?_eq_some_iff.1 h5).1)
    have HXL := η (show w.heap.size ≤ wr.heap.size from HB.out.size)
    have HX1 := η (show Bx (wr.alloc (.cells #[.int .u64 0, .int .u64 0] 86)) wr.heap.size #[.int .u64 0, .int .u64 0] 86 from Bx.new _ _ _)
    have HOV1 := η (HOV.out.alloc (.cells #[.int .u64 0, .int .u64 0] 86)); have HB1 := η (show Below w.heap.size w (wr.alloc (.cells #[.int .u64 0, .int .u64 0] 86)) from J8 HB.out)
    clear HOV HB
    obtain ⟨M, hM⟩ : ∃ M, memR d (lR v Q F G (qf k) (qg k)) n = M := ⟨_, rfl⟩
    have hkk := HKK.out; rw [hM] at hkk; clear HKK
    have HKK := η hkk; have HM := η hM; clear hkk hM
    obtain ⟨p0, p1, p2⟩ := QC.out _ HB1.out
    go_wp2_with fail
    clear p0 p1 p2
    generalize (wr.alloc (.cells #[.int .u64 0, .int .u64 0] 86)) = w1 at *
    generalize wr.heap.size = xb at *
    refine (Zfz A n c d v Q F G (qf k) (qg k) HIS.out.1 HIS.out.2.1 _ (HR.out.below HB1.out ν) (HP.out.below HB1.out ν) HO.out).mono ?_
    rintro e w5 ⟨rfl, B⟩
    rw [HM.out]
    have HX5 := η (HX1.out.below B ν); have HOV5 := η (HOV1.out.below B ν); have HB5 := η (HB1.out.trans (B.mono HB1.out.size))
    clear B HX1 HOV1 HB1
    rcases M with _ | _
    ·have r1 : rl (K k) = 0 := by rw [HKK.out]; simp [keyQ, rl]
     have r2 : ri (K k) = 0 := by rw [HKK.out]; simp [keyQ, ri]
     have c0 := HX5.out.cell 0 (v := .int .u64 0) rfl; have c1 := HX5.out.cell 1 (v := .int .u64 0) rfl
     go_wp2_with (at_builtin; refine wpList_append_own_at _ rfl _ _ 53 rfl w.heap.size 86 i0 (.agg #[.int .u64 0, .int .u64 0]) 2 16 Tryz.underlying53 hi0 hz0 hz1 hz2 rfl (by decide) _ _ _ rfl (HOV5.out.alloc (.cells #[.int .u64 0, .int .u64 0] 86)) ⟨w5.heap.size, 0, none⟩ 1 1 [.int .u64 0, .int .u64 0] rfl rfl ?c1 ?c2 ?c3 ?c4 ?c5 ?_)
     case c1 => exact JE (by simp) _ _ _
     case c2 => simp [Value.oneCell']
     case c3 => unfold maxLen; omega
     case c4 => omega
     case c5 => exact Nat.le_trans HB5.out.size (by simp)
     intro v' w7 hown2 hgrow _ _
     clear c0 c1
     have HOF := η (show OwC w7 w.heap.size v' (k + 1) K from OwC.snoc (h := K) (y := K k) (by rw [r1, r2]; exact hown2) rfl (fun _ _ => rfl) rfl)
     have HB7 := η ((show Below w.heap.size w (w5.alloc (.cells #[.int .u64 0, .int .u64 0] 86)) from J8 HB5.out).grown hgrow (Nat.le_trans HB5.out.size (by simp)) (fun q e => (Jv (show World.ownsRow _ _ _ _ _ _ _ from HOV5.out.alloc (.cells #[.int .u64 0, .int .u64 0] 86)) e).1))
     clear hown2 hgrow HX5 HOV5 HB5
     go_wp2_with fail
     go_roundw
     case rel => exact ⟨k + 1, hlt, by go_num, HOF.out, HB7.out⟩
     case measure => exact hms.out
    ·have r1 : rl (K k) = 1 := by rw [HKK.out]; have := Zgm (b := true) HIS.out.2.2; simpa using this
     have r2 : ri (K k) = qd k := by rw [HKK.out]; have := Zgn (b := true) HIS.out.2.2; simpa using this
     obtain ⟨-, -, p2⟩ := QC.out _ HB5.out
     have x0 := HX5.out.cell 0 (v := .int .u64 0) rfl; have x1 := HX5.out.cell 1 (v := .int .u64 0) rfl; have z0 := HX5.out.free 0; have z1 := HX5.out.free 1
     have hxl : w.heap.size ≤ xb := HXL.out
     go_upto_region 11 with (fail)
     clear p2 x0 x1 z0 z1
     have HX6 := η ((HX5.out.set 0 (.int .u64 1)).set 1 (.int .u64 (qd k)))
     have HOV6 := η ((HOV5.out.setNe (i := 0) (y := .int .u64 1) HVX.out).setNe (i := 1) (y := .int .u64 (qd k)) HVX.out)
     have HB6 := η (J9 (i := 1) (v := .int .u64 (qd k)) hxl (J9 (i := 0) (v := .int .u64 1) hxl HB5.out))
     clear HX5 HOV5 HB5
     generalize (w5.setCell ⟨xb, 0, none⟩ (.int .u64 1)).setCell ⟨xb, 1, none⟩ (.int .u64 (qd k)) = w6 at *
     have c0 := HX6.out.cell 0 (v := .int .u64 1) rfl; have c1 := HX6.out.cell 1 (v := .int .u64 (qd k)) rfl
     go_wp2_with (at_builtin; refine wpList_append_own_at _ rfl _ _ 53 rfl w.heap.size 86 i0 (.agg #[.int .u64 0, .int .u64 0]) 2 16 Tryz.underlying53 hi0 hz0 hz1 hz2 rfl (by decide) _ _ _ rfl (HOV6.out.alloc (.cells #[.int .u64 1, .int .u64 (qd k)] 86)) ⟨w6.heap.size, 0, none⟩ 1 1 [.int .u64 1, .int .u64 (qd k)] rfl rfl ?c1 ?c2 ?c3 ?c4 ?c5 ?_)
     case c1 => exact JE (by simp) _ _ _
     case c2 => simp [Value.oneCell']
     case c3 => unfold maxLen; omega
     case c4 => omega
     case c5 => exact Nat.le_trans HB6.out.size (by simp)
     intro v' w7 hown2 hgrow _ _
     clear c0 c1
     have HOF := η (show OwC w7 w.heap.size v' (k + 1) K from OwC.snoc (h := K) (y := K k) (by rw [r1, r2]; exact hown2) rfl (fun _ _ => rfl) rfl)
     have HB7 := η ((show Below w.heap.size w (w6.alloc (.cells #[.int .u64 1, .int .u64 (qd k)] 86)) from J8 HB6.out).grown hgrow (Nat.le_trans HB6.out.size (by simp)) (fun q e => (Jv (show World.ownsRow _ _ _ _ _ _ _ from HOV6.out.alloc (.cells #[.int .u64 1, .int .u64 (qd k)] 86)) e).1))
     clear hown2 hgrow HX6 HOV6 HB6
     go_wp2_with fail
     go_roundw
     case rel => exact ⟨k + 1, hlt, by go_num, HOF.out, HB7.out⟩
     case measure => exact hms.out
  ·obtain rfl : qn = k := by omega
   go_wp2_with fail
   go_ret
   exact ⟨⟨_, rfl, HOV.out⟩, HB.out⟩
set_option maxRecDepth 100000 in
theorem ZhH (A : Option Addr) (n c : Nat) (d : Nat → Bool) (v : Nat → Int) (Q : Nat → Option Addr × Nat × Nat) (F G : Nat → Nat → Int) (QA : Option Addr) (qn qc : Nat) (qf qg qd : Nat → Int) (h0 : 1 ≤ qn) (h9 : qn ≤ 1000) (V : Bool) (K : Nat → Int) (N : Nat) (hV : allB (vR v Q F G) n = V) (hK : ∀ i, K i = keyQ (V && memR d (lR v Q F G (qf i) (qg i)) n) (qd i)) (hKK : ∀ i, i < qn → IsK (K i)) (hN : Jy K qn = N) (w : World) (hr : Rgs w A n c d v Q) (hp : RgP w n Q F G) (ho : OkR n v Q) (hq : Qus w QA qn qc qf qg qd) :
  Calls Tryz.prog 21 #[.slice A n c, .slice QA qn qc] w fun e w' => (∃ R rc h', e = .returned (.tuple #[.agg #[.int .i64 (b2i V), .int .i64 (N : Int), .slice R qn rc], .int .i64 0]) ∧ IsSort K qn h' ∧ Rcs w' R qn rc h') ∧ Below w.heap.size w w' := by
 have HR := η hr; have HP := η hp; have HO := η ho; have HQ := η hq
 have hcp := hq.cap; have hmx := hq.max; unfold maxLen at hmx
 have HV := η hV; have HK := η hK; have HKK := η hKK; have HN := η hN
 clear hr hp ho hq hV hK hKK hN
 go_enter Tryz.func21, Tryz.ntmps21
 go_wp2_with fail
 have HX := η (Bx.new w #[.int .i64 0, .int .i64 0, .slice none 0 0] 55)
 have HB1 := η (show Below w.heap.size w (w.alloc (.cells #[.int .i64 0, .int .i64 0, .slice none 0 0] 55)) from J8 J0)
 generalize w.alloc (.cells #[.int .i64 0, .int .i64 0, .slice none 0 0] 55) = w1 at *
 refine (Zak A n c d v Q _ (HR.out.below HB1.out ν)).mono ?_
 rintro e w2 ⟨⟨z, rfl, hz⟩, B⟩
 obtain rfl : z = 0 := hz.2 HO.out
 have HX2 := η (HX.out.below B ν); have HB2 := η (HB1.out.trans (B.mono HB1.out.size)); clear B hz HX HB1
 have q1 : ¬ ((qn : Int) < 1) := by omega
 have q2 : ¬ ((4096 : Int) < qn) := by omega
 go_wp2_with fail
 clear q1 q2
 refine (ZeK A n c d v Q F G QA qn qc qf qg qd h0 h9 V K HV.out HK.out _ (HR.out.below HB2.out ν) (HP.out.below HB2.out ν) HO.out (HQ.out.below HB2.out ν)).mono ?_
 rintro e w3 ⟨⟨v3, rfl, how⟩, B⟩
 obtain ⟨VA, vc, rfl⟩ := how.slice
 have HRC := η (how.rcs HKK.out)
 have HX3 := η (HX2.out.below B ν); have HB3 := η (HB2.out.trans (B.mono HB2.out.size)); clear B how HX2 HB2
 go_wp2_with fail
 refine (ZgS VA qn vc K (by omega) _ HRC.out).mono ?_
 rintro e w4 ⟨⟨v4, k4, rfl, his, hik, how⟩, B⟩
 obtain ⟨SA, sc, rfl⟩ := how.slice
 obtain ⟨sg_, sc_, scur_, se, hsg, -, -, hsb, -⟩ := how.form (by omega)
 simp at se
 obtain ⟨rfl, rfl⟩ := se
 have hslt := hsb.lt
 have HSG := η hsg; have HSL := η hslt
 have hx3 := HX3.out.lt
 clear hsb hsg hslt
 have HSC := η (how.rcs hik); have HIS := η his
 have HRC4 := η (HRC.out.below B ν); have HX4 := η (HX3.out.below B ν); have HB4 := η (HB3.out.trans (B.mono HB3.out.size)); clear B how his hik HX3 HB3 HRC
 go_wp2_with fail
 refine (Zg4 VA qn vc K (by omega) _ HRC4.out).mono ?_
 rintro e w5 ⟨rfl, B⟩
 have hB5s := η B.size
 rw [HN.out]
 have hnq : N ≤ qn := by rw [← HN.out]; exact Zas K qn
 have e1 : IntKind.i64.wrap (N : Int) = (N : Int) := by rw [IntKind.wrap_i64]; omega
 have HSC5 := η (HSC.out.below B ν); have HX5 := η (HX4.out.below B ν); have HB5 := η (HB4.out.trans (B.mono HB4.out.size)); clear B HX4 HB4 HRC4 HSC
 have hx5 := HX5.out.lt
 have hs5 : sg_ < w5.heap.size := by have := HSL.out; have := hB5s.out; omega
 have hsx : sg_ ≠ w.heap.size := by have := HSG.out; omega
 go_wp2_with fail
 have HA := η (Bx.new w5 #[.int .i64 0, .int .i64 (N : Int), .slice (some ⟨sg_, 0, none⟩) qn sc] 55)
 have HX6 := η (HX5.out.alloc (.cells #[.int .i64 0, .int .i64 (N : Int), .slice (some ⟨sg_, 0, none⟩) qn sc] 55)); have HSC6 := η (HSC5.out.alloc (.cells #[.int .i64 0, .int .i64 (N : Int), .slice (some ⟨sg_, 0, none⟩) qn sc] 55)); have HB6 := η (show Below w.heap.size w (w5.alloc (.cells #[.int .i64 0, .int .i64 (N : Int), .slice (some ⟨sg_, 0, none⟩) qn sc] 55)) from J8 HB5.out)
 clear HX5 HSC5 HB5
 generalize w5.alloc (.cells #[.int .i64 0, .int .i64 (N : Int), .slice (some ⟨sg_, 0, none⟩) qn sc] 55) = w6 at *
 generalize w5.heap.size = ab at *
 refine (ZcM A n c d v Q F G _ (HR.out.below HB6.out ν) (HP.out.below HB6.out ν) HO.out).mono ?_
 rintro e w7 ⟨rfl, B⟩
 rw [HV.out]
 have HX7 := η (HX6.out.below B ν); have HA7 := η (HA.out.below B ν); have HSC7 := η (HSC6.out.below B ν); have HB7 := η (HB6.out.trans (B.mono HB6.out.size)); clear B HX6 HA HSC6 HB6
 have hab : ab ≠ w.heap.size := by omega
 rcases V with _ | _
 ·have a0 := HA7.out.cell 0 (v := .int .i64 0) rfl; have a1 := HA7.out.cell 1 (v := .int .i64 (N : Int)) rfl; have a2 := HA7.out.cell 2 (v := .slice (some ⟨sg_, 0, none⟩) qn sc) rfl; have y0 := HX7.out.cell 0 (v := .int .i64 0) rfl; have y1 := HX7.out.cell 1 (v := .int .i64 0) rfl; have y2 := HX7.out.cell 2 (v := .slice none 0 0) rfl; have z0 := HX7.out.free 0; have z1 := HX7.out.free 1; have z2 := HX7.out.free 2; have f0 := HA7.out.free 0
  have hab2 := hab.symm
  go_wp2_with fail
  clear a0 a1 a2 y0 y1 y2 z0 z1 z2 f0
  have HZ := η (((HX7.out.set 0 (.int .i64 0)).set 1 (.int .i64 (N : Int))).set 2 (.slice (some ⟨sg_, 0, none⟩) qn sc)); have HBE := η (J9 (b := w.heap.size) (i := 2) (v := .slice (some ⟨sg_, 0, none⟩) qn sc) ν (J9 (b := w.heap.size) (i := 1) (v := .int .i64 (N : Int)) ν (J9 (b := w.heap.size) (i := 0) (v := .int .i64 0) ν HB7.out))); have HRC := η (((HSC7.out.setFar (i := 0) (x := .int .i64 0) hsx).setFar (i := 1) (x := .int .i64 (N : Int)) hsx).setFar (i := 2) (x := .slice (some ⟨sg_, 0, none⟩) qn sc) hsx)
  generalize (((w7.setCell ⟨w.heap.size, 0, none⟩ (.int .i64 0)).setCell ⟨w.heap.size, 1, none⟩ (.int .i64 (N : Int))).setCell ⟨w.heap.size, 2, none⟩ (.slice (some ⟨sg_, 0, none⟩) qn sc)) = wz at *
  have q0 := HZ.out.cell 0 (v := .int .i64 0) rfl; have q1 := HZ.out.cell 1 (v := .int .i64 (N : Int)) rfl; have q2 := HZ.out.cell 2 (v := .slice (some ⟨sg_, 0, none⟩) qn sc) rfl
  refine bodyPost_ret (v := .tuple #[.agg #[.int .i64 0, .int .i64 (N : Int), .slice (some ⟨sg_, 0, none⟩) qn sc], .int .i64 0]) (by simp [results, Tryz.results21, go_sem, q0, q1, q2]) rfl ⟨⟨_, _, k4, rfl, HIS.out, HRC.out⟩, HBE.out⟩
 ·have a0 := HA7.out.cell 0 (v := .int .i64 0) rfl; have a1 := HA7.out.cell 1 (v := .int .i64 (N : Int)) rfl; have a2 := HA7.out.cell 2 (v := .slice (some ⟨sg_, 0, none⟩) qn sc) rfl; have y0 := HX7.out.cell 0 (v := .int .i64 0) rfl; have y1 := HX7.out.cell 1 (v := .int .i64 0) rfl; have y2 := HX7.out.cell 2 (v := .slice none 0 0) rfl; have z0 := HX7.out.free 0; have z1 := HX7.out.free 1; have z2 := HX7.out.free 2; have f0 := HA7.out.free 0
  have hab2 := hab.symm
  go_wp2_with fail
  clear a0 a1 a2 y0 y1 y2 z0 z1 z2 f0
  have HZ := η ((((HX7.out.other (a := ⟨ab, 0, none⟩) (.int .i64 1) hab.symm).set 0 (.int .i64 1)).set 1 (.int .i64 (N : Int))).set 2 (.slice (some ⟨sg_, 0, none⟩) qn sc)); have HBE := η (J9 (b := w.heap.size) (i := 2) (v := .slice (some ⟨sg_, 0, none⟩) qn sc) ν (J9 (b := w.heap.size) (i := 1) (v := .int .i64 (N : Int)) ν (J9 (b := w.heap.size) (i := 0) (v := .int .i64 1) ν (J9 (b := ab) (i := 0) (v := .int .i64 1) (by omega) HB7.out)))); have HRC := η ((((HSC7.out.setFar (i := 0) (x := .int .i64 1) (show sg_ ≠ ab by omega)).setFar (i := 0) (x := .int .i64 1) hsx).setFar (i := 1) (x := .int .i64 (N : Int)) hsx).setFar (i := 2) (x := .slice (some ⟨sg_, 0, none⟩) qn sc) hsx)
  generalize ((((w7.setCell ⟨ab, 0, none⟩ (.int .i64 1)).setCell ⟨w.heap.size, 0, none⟩ (.int .i64 1)).setCell ⟨w.heap.size, 1, none⟩ (.int .i64 (N : Int))).setCell ⟨w.heap.size, 2, none⟩ (.slice (some ⟨sg_, 0, none⟩) qn sc)) = wz at *
  have q0 := HZ.out.cell 0 (v := .int .i64 1) rfl; have q1 := HZ.out.cell 1 (v := .int .i64 (N : Int)) rfl; have q2 := HZ.out.cell 2 (v := .slice (some ⟨sg_, 0, none⟩) qn sc) rfl
  refine bodyPost_ret (v := .tuple #[.agg #[.int .i64 1, .int .i64 (N : Int), .slice (some ⟨sg_, 0, none⟩) qn sc], .int .i64 0]) (by simp [results, Tryz.results21, go_sem, q0, q1, q2]) rfl ⟨⟨_, _, k4, rfl, HIS.out, HRC.out⟩, HBE.out⟩
set_option maxRecDepth 100000 in
theorem ZhI (HA : Option Addr) (n hc : Nat) (x : Int) (N qn rc : Nat) (R : Option Addr) (h : Nat → Int) (hx : x = 0 ∨ x = 1) (hN : N ≤ qn) (hN0 : x = 0 → N = 0) (h1 : 1 ≤ qn) (hq : qn ≤ 1000) (hl : ∀ i, i < qn → (h i < 18446744073709551616 ↔ i < N)) (w : World) (hr : Rcs w R qn rc h) :
  Calls Tryz.prog 44 #[.agg #[.int .i64 5, .int .i64 0, .slice HA n hc, .int .i64 (qn : Int)], .agg #[.int .i64 x, .int .i64 (N : Int), .slice R qn rc]] w fun e w' => e = .returned (.bool true) ∧ Below w.heap.size w w' := by
 have HR := η hr; have HL := η hl; have hcp := hr.cap; have hmx2 := hr.max; clear hr hl
 unfold maxLen at hmx2
 rcases hx with rfl | rfl
 ·obtain rfl : N = 0 := hN0 rfl
  go_enter Tryz.func44, Tryz.ntmps44
  go_wp2_with fail
  have HH := η (show Bx (((w.alloc (.cells #[.int .i64 5, .int .i64 0, .slice HA n hc, .int .i64 (qn : Int)] 28)).alloc (.cells #[.int .i64 0, .int .i64 0, .slice R qn rc] 55)).alloc (.cells #[.int .i64 0, .int .i64 2, .int .i64 2, .int .i64 3, .int .i64 2, .int .i64 1] 117)) w.heap.size #[.int .i64 5, .int .i64 0, .slice HA n hc, .int .i64 (qn : Int)] 28 from ((Bx.new _ _ _).alloc _).alloc _)
  have HA_ := η (show Bx (((w.alloc (.cells #[.int .i64 5, .int .i64 0, .slice HA n hc, .int .i64 (qn : Int)] 28)).alloc (.cells #[.int .i64 0, .int .i64 0, .slice R qn rc] 55)).alloc (.cells #[.int .i64 0, .int .i64 2, .int .i64 2, .int .i64 3, .int .i64 2, .int .i64 1] 117)) (w.heap.size + 1) #[.int .i64 0, .int .i64 0, .slice R qn rc] 55 from (Jb (by simp)).alloc _)
  have HM := η (show Bx (((w.alloc (.cells #[.int .i64 5, .int .i64 0, .slice HA n hc, .int .i64 (qn : Int)] 28)).alloc (.cells #[.int .i64 0, .int .i64 0, .slice R qn rc] 55)).alloc (.cells #[.int .i64 0, .int .i64 2, .int .i64 2, .int .i64 3, .int .i64 2, .int .i64 1] 117)) (w.heap.size + 2) #[.int .i64 0, .int .i64 2, .int .i64 2, .int .i64 3, .int .i64 2, .int .i64 1] 117 from Jb (by simp))
  have HB1 := η (show Below w.heap.size w (((w.alloc (.cells #[.int .i64 5, .int .i64 0, .slice HA n hc, .int .i64 (qn : Int)] 28)).alloc (.cells #[.int .i64 0, .int .i64 0, .slice R qn rc] 55)).alloc (.cells #[.int .i64 0, .int .i64 2, .int .i64 2, .int .i64 3, .int .i64 2, .int .i64 1] 117)) from J8 (J8 (J8 J0)))
  generalize (((w.alloc (.cells #[.int .i64 5, .int .i64 0, .slice HA n hc, .int .i64 (qn : Int)] 28)).alloc (.cells #[.int .i64 0, .int .i64 0, .slice R qn rc] 55)).alloc (.cells #[.int .i64 0, .int .i64 2, .int .i64 2, .int .i64 3, .int .i64 2, .int .i64 1] 117)) = w1 at *
  have QC := η (show ∀ w', Below w1.heap.size w1 w' → (w'.cell? ⟨w.heap.size, 0, none⟩ = some (.int .i64 5) ∧ w'.cell? ⟨w.heap.size, 3, none⟩ = some (.int .i64 (qn : Int)) ∧ w'.cell? ⟨w.heap.size + 1, 0, none⟩ = some (.int .i64 0) ∧ w'.cell? ⟨w.heap.size + 1, 1, none⟩ = some (.int .i64 0) ∧ w'.cell? ⟨w.heap.size + 1, 2, none⟩ = some (.slice R qn rc) ∧ w'.cell? ⟨w.heap.size + 2, 5, none⟩ = some (.int .i64 1)) from fun w' hb => ⟨(HH.out.below hb ν).cell 0 rfl, (HH.out.below hb ν).cell 3 rfl, (HA_.out.below hb ν).cell 0 rfl, (HA_.out.below hb ν).cell 1 rfl, (HA_.out.below hb ν).cell 2 rfl, (HM.out.below hb ν).cell 5 rfl⟩)
  refine wp_region_held_drew (S := fun w' => (w'.cell? ⟨w.heap.size, 0, none⟩ = some (.int .i64 5) ∧ w'.cell? ⟨w.heap.size, 3, none⟩ = some (.int .i64 (qn : Int)) ∧ w'.cell? ⟨w.heap.size + 1, 0, none⟩ = some (.int .i64 0) ∧ w'.cell? ⟨w.heap.size + 1, 1, none⟩ = some (.int .i64 0) ∧ w'.cell? ⟨w.heap.size + 1, 2, none⟩ = some (.slice R qn rc) ∧ w'.cell? ⟨w.heap.size + 2, 5, none⟩ = some (.int .i64 1))) (by kernel_rfl) (QC.out _ J0.drew) (fun hHeld => ?_)
  refine tk 0 hHeld ?_
  refine tk 1 hHeld ?_
  refine tk 2 hHeld ?_
  refine tk 3 hHeld ?_
  refine tk 4 hHeld ?_
  refine tk 5 hHeld ?_
  refine tk 6 hHeld ?_
  refine tk 7 hHeld ?_
  refine tk 8 hHeld ?_
  refine tk 9 hHeld ?_
  refine tk 10 hHeld ?_
  refine tk 11 hHeld ?_
  refine tk 12 hHeld ?_
  refine tk 13 hHeld ?_
  refine tk 14 hHeld ?_
  refine tk 15 hHeld ?_
  refine tk 16 hHeld ?_
  refine tk 17 hHeld ?_
  refine tk 18 hHeld ?_
  refine tk 19 hHeld ?_
  refine tk 20 hHeld ?_
  refine tk 21 hHeld ?_
  refine tk 22 hHeld ?_
  refine tk 23 hHeld ?_
  refine tk 24 hHeld ?_
  refine tk 25 hHeld ?_
  refine tk 26 hHeld ?_
  refine tk 27 hHeld ?_
  refine tk 28 hHeld ?_
  refine tk 29 hHeld ?_
  refine tk 30 hHeld ?_
  refine tk 31 hHeld ?_
  refine tk 32 hHeld ?_
  refine tk 33 hHeld ?_
  refine tk 34 hHeld ?_
  refine tk 35 hHeld ?_
  refine tk 36 hHeld ?_
  refine tk 37 hHeld ?_
  refine tk 38 hHeld ?_
  refine tk 39 hHeld ?_
  refine tk 40 hHeld ?_
  refine tk 41 hHeld ?_
  refine wpAnyH_done (by kernel_rfl) ?_ _
  clear hHeld
  have HB2 := η (show Below w1.heap.size w1 w1.drew from J0.drew)
  have HBD := η (show Below w.heap.size w w1.drew from HB1.out.drew)
  have HAD := η (Jf HA_.out)
  generalize w1.drew = w2 at *
  clear QC HH HM HA_ HB1 HB2
  go_wp2_with fail
  go_loopw [6] (fun ir wr => ∃ k : Nat, k ≤ qn ∧ ir = .int .i64 (k : Int) ∧ Below w2.heap.size w2 wr) (fun i _ => qn - (intOf i).toNat)
  case atStart => exact ⟨0, Nat.zero_le _, rfl, J0⟩
  case round =>
   obtain ⟨k, hk, rfl, hb⟩ := hrel
   have HB := η hb; clear hb
   have HBW := η (HBD.out.trans (HB.out.mono HBD.out.size))
   have HAR := η (HAD.out.below HB.out ν)
   have a2 := HAR.out.cell 2 (v := .slice R qn rc) rfl
   by_cases hlt : k < qn
   ·obtain ⟨b, off, rfl, hbl, hc_⟩ := HR.out.at_ (by omega)
    have p0 : wr.cell? ⟨b, off + k * 2, none⟩ = some (.int .u64 (rl (h k))) := (HBW.out.cell (p := ⟨b, off + k * 2, none⟩) hbl).trans (hc_ k hlt).1
    have p1 : wr.cell? ⟨b, off + k * 2 + 1, none⟩ = some (.int .u64 (ri (h k))) := (HBW.out.cell (p := ⟨b, off + k * 2 + 1, none⟩) hbl).trans (hc_ k hlt).2
    have hms := η (show qn - (intOf (.int .i64 ((k : Int) + 1))).toNat < qn - (intOf (.int .i64 (k : Int))).toNat from by simp [intOf]; omega)
    have HLK := η (HL.out k hlt)
    clear hbl hc_
    by_cases hkn : k < 0
    ·exact absurd hkn (Nat.not_lt_zero _)
    ·have hd : ¬ (h k < 18446744073709551616) := fun e => hkn (HLK.out.1 e)
     have e1 : rl (h k) = 0 := by unfold rl; rw [if_neg hd]
     have e2 : ri (h k) = 0 := by unfold ri; rw [if_neg hd]
     rw [e1] at p0
     rw [e2] at p1
     have q1 : ¬ ((k : Int) < 0) := by omega
     have q4 : 0 ≤ (k : Int) := by omega
     clear e1 e2 hd
     have a1 := (HAR.out.alloc (.cells #[.int .u64 0, .int .u64 0] 86)).cell 1 (v := .int .i64 0) rfl
     have HB9 := η (HB.out.alloc HB.out.size (.cells #[.int .u64 0, .int .u64 0] 86))
     go_wp2_with fail
     go_roundw
     case rel => exact ⟨k + 1, hlt, by go_num, HB9.out⟩
     case measure => exact hms.out
   ·obtain rfl : k = qn := by omega
    go_wp2_with fail
    go_ret
    exact ⟨rfl, HBW.out⟩
 ·have q2 : ¬ ((qn : Int) < (N : Int)) := by omega
  have q5 : decide (qn < N) = false := decide_eq_false (by omega)
  have q6 : decide ((N : Int) < 0) = false := decide_eq_false (by omega)
  have q3 : ¬ ((N : Int) < 0) := by omega
  go_enter Tryz.func44, Tryz.ntmps44
  go_wp2_with fail
  have HH := η (show Bx (((w.alloc (.cells #[.int .i64 5, .int .i64 0, .slice HA n hc, .int .i64 (qn : Int)] 28)).alloc (.cells #[.int .i64 1, .int .i64 (N : Int), .slice R qn rc] 55)).alloc (.cells #[.int .i64 0, .int .i64 2, .int .i64 2, .int .i64 3, .int .i64 2, .int .i64 1] 117)) w.heap.size #[.int .i64 5, .int .i64 0, .slice HA n hc, .int .i64 (qn : Int)] 28 from ((Bx.new _ _ _).alloc _).alloc _)
  have HA_ := η (show Bx (((w.alloc (.cells #[.int .i64 5, .int .i64 0, .slice HA n hc, .int .i64 (qn : Int)] 28)).alloc (.cells #[.int .i64 1, .int .i64 (N : Int), .slice R qn rc] 55)).alloc (.cells #[.int .i64 0, .int .i64 2, .int .i64 2, .int .i64 3, .int .i64 2, .int .i64 1] 117)) (w.heap.size + 1) #[.int .i64 1, .int .i64 (N : Int), .slice R qn rc] 55 from (Jb (by simp)).alloc _)
  have HM := η (show Bx (((w.alloc (.cells #[.int .i64 5, .int .i64 0, .slice HA n hc, .int .i64 (qn : Int)] 28)).alloc (.cells #[.int .i64 1, .int .i64 (N : Int), .slice R qn rc] 55)).alloc (.cells #[.int .i64 0, .int .i64 2, .int .i64 2, .int .i64 3, .int .i64 2, .int .i64 1] 117)) (w.heap.size + 2) #[.int .i64 0, .int .i64 2, .int .i64 2, .int .i64 3, .int .i64 2, .int .i64 1] 117 from Jb (by simp))
  have HB1 := η (show Below w.heap.size w (((w.alloc (.cells #[.int .i64 5, .int .i64 0, .slice HA n hc, .int .i64 (qn : Int)] 28)).alloc (.cells #[.int .i64 1, .int .i64 (N : Int), .slice R qn rc] 55)).alloc (.cells #[.int .i64 0, .int .i64 2, .int .i64 2, .int .i64 3, .int .i64 2, .int .i64 1] 117)) from J8 (J8 (J8 J0)))
  generalize (((w.alloc (.cells #[.int .i64 5, .int .i64 0, .slice HA n hc, .int .i64 (qn : Int)] 28)).alloc (.cells #[.int .i64 1, .int .i64 (N : Int), .slice R qn rc] 55)).alloc (.cells #[.int .i64 0, .int .i64 2, .int .i64 2, .int .i64 3, .int .i64 2, .int .i64 1] 117)) = w1 at *
  have QC := η (show ∀ w', Below w1.heap.size w1 w' → (w'.cell? ⟨w.heap.size, 0, none⟩ = some (.int .i64 5) ∧ w'.cell? ⟨w.heap.size, 3, none⟩ = some (.int .i64 (qn : Int)) ∧ w'.cell? ⟨w.heap.size + 1, 0, none⟩ = some (.int .i64 1) ∧ w'.cell? ⟨w.heap.size + 1, 1, none⟩ = some (.int .i64 (N : Int)) ∧ w'.cell? ⟨w.heap.size + 1, 2, none⟩ = some (.slice R qn rc) ∧ w'.cell? ⟨w.heap.size + 2, 5, none⟩ = some (.int .i64 1)) from fun w' hb => ⟨(HH.out.below hb ν).cell 0 rfl, (HH.out.below hb ν).cell 3 rfl, (HA_.out.below hb ν).cell 0 rfl, (HA_.out.below hb ν).cell 1 rfl, (HA_.out.below hb ν).cell 2 rfl, (HM.out.below hb ν).cell 5 rfl⟩)
  refine wp_region_held_drew (S := fun w' => (w'.cell? ⟨w.heap.size, 0, none⟩ = some (.int .i64 5) ∧ w'.cell? ⟨w.heap.size, 3, none⟩ = some (.int .i64 (qn : Int)) ∧ w'.cell? ⟨w.heap.size + 1, 0, none⟩ = some (.int .i64 1) ∧ w'.cell? ⟨w.heap.size + 1, 1, none⟩ = some (.int .i64 (N : Int)) ∧ w'.cell? ⟨w.heap.size + 1, 2, none⟩ = some (.slice R qn rc) ∧ w'.cell? ⟨w.heap.size + 2, 5, none⟩ = some (.int .i64 1))) (by kernel_rfl) (QC.out _ J0.drew) (fun hHeld => ?_)
  refine tk 0 hHeld ?_
  refine tk 1 hHeld ?_
  refine tk 2 hHeld ?_
  refine tk 3 hHeld ?_
  refine tk 4 hHeld ?_
  refine tk 5 hHeld ?_
  refine tk 6 hHeld ?_
  refine tk 7 hHeld ?_
  refine tk 8 hHeld ?_
  refine tk 9 hHeld ?_
  refine tk 10 hHeld ?_
  refine tk 11 hHeld ?_
  refine tk 12 hHeld ?_
  refine tk 13 hHeld ?_
  refine tk 14 hHeld ?_
  refine tk 15 hHeld ?_
  refine tk 16 hHeld ?_
  refine tk 17 hHeld ?_
  refine tk 18 hHeld ?_
  refine tk 19 hHeld ?_
  refine tk 20 hHeld ?_
  refine tk 21 hHeld ?_
  refine tk 22 hHeld ?_
  refine tk 23 hHeld ?_
  refine tk 24 hHeld ?_
  refine tk 25 hHeld ?_
  refine tk 26 hHeld ?_
  refine tk 27 hHeld ?_
  refine tk 28 hHeld ?_
  refine tk 29 hHeld ?_
  refine tk 30 hHeld ?_
  refine tk 31 hHeld ?_
  refine tk 32 hHeld ?_
  refine tk 33 hHeld ?_
  refine tk 34 hHeld ?_
  refine tk 35 hHeld ?_
  refine tk 36 hHeld ?_
  refine tg 37 hHeld ?_
  refine tg 38 hHeld ?_
  refine tg 39 hHeld ?_
  refine tk 40 hHeld ?_
  refine tk 41 hHeld ?_
  refine wpAnyH_done (by kernel_rfl) ?_ _
  clear hHeld
  have HB2 := η (show Below w1.heap.size w1 w1.drew from J0.drew)
  have HBD := η (show Below w.heap.size w w1.drew from HB1.out.drew)
  have HAD := η (Jf HA_.out)
  generalize w1.drew = w2 at *
  clear QC HH HM HA_ HB1 HB2
  go_wp2_with fail
  go_loopw [6] (fun ir wr => ∃ k : Nat, k ≤ qn ∧ ir = .int .i64 (k : Int) ∧ Below w2.heap.size w2 wr) (fun i _ => qn - (intOf i).toNat)
  case atStart => exact ⟨0, Nat.zero_le _, rfl, J0⟩
  case round =>
   obtain ⟨k, hk, rfl, hb⟩ := hrel
   have HB := η hb; clear hb
   have HBW := η (HBD.out.trans (HB.out.mono HBD.out.size))
   have HAR := η (HAD.out.below HB.out ν)
   have a2 := HAR.out.cell 2 (v := .slice R qn rc) rfl
   by_cases hlt : k < qn
   ·obtain ⟨b, off, rfl, hbl, hc_⟩ := HR.out.at_ (by omega)
    have p0 : wr.cell? ⟨b, off + k * 2, none⟩ = some (.int .u64 (rl (h k))) := (HBW.out.cell (p := ⟨b, off + k * 2, none⟩) hbl).trans (hc_ k hlt).1
    have p1 : wr.cell? ⟨b, off + k * 2 + 1, none⟩ = some (.int .u64 (ri (h k))) := (HBW.out.cell (p := ⟨b, off + k * 2 + 1, none⟩) hbl).trans (hc_ k hlt).2
    have hms := η (show qn - (intOf (.int .i64 ((k : Int) + 1))).toNat < qn - (intOf (.int .i64 (k : Int))).toNat from by simp [intOf]; omega)
    have HLK := η (HL.out k hlt)
    clear hbl hc_
    by_cases hkn : k < N
    ·have e1 : rl (h k) = 1 := by unfold rl; rw [if_pos (HLK.out.2 hkn)]
     rw [e1] at p0
     generalize ri (h k) = y at *
     have q1 : (k : Int) < (N : Int) := by omega
     have q4 : ¬ ((N : Int) ≤ (k : Int)) := by omega
     clear e1
     have a1 := (HAR.out.alloc (.cells #[.int .u64 1, .int .u64 y] 86)).cell 1 (v := .int .i64 (N : Int)) rfl
     have HB9 := η (HB.out.alloc HB.out.size (.cells #[.int .u64 1, .int .u64 y] 86))
     go_wp2_with fail
     go_roundw
     case rel => exact ⟨k + 1, hlt, by go_num, HB9.out⟩
     case measure => exact hms.out
    ·have hd : ¬ (h k < 18446744073709551616) := fun e => hkn (HLK.out.1 e)
     have e1 : rl (h k) = 0 := by unfold rl; rw [if_neg hd]
     have e2 : ri (h k) = 0 := by unfold ri; rw [if_neg hd]
     rw [e1] at p0
     rw [e2] at p1
     have q1 : ¬ ((k : Int) < (N : Int)) := by omega
     have q4 : (N : Int) ≤ (k : Int) := by omega
     clear e1 e2 hd
     have a1 := (HAR.out.alloc (.cells #[.int .u64 0, .int .u64 0] 86)).cell 1 (v := .int .i64 (N : Int)) rfl
     have HB9 := η (HB.out.alloc HB.out.size (.cells #[.int .u64 0, .int .u64 0] 86))
     go_wp2_with fail
     go_roundw
     case rel => exact ⟨k + 1, hlt, by go_num, HB9.out⟩
     case measure => exact hms.out
   ·obtain rfl : k = qn := by omega
    go_wp2_with fail
    go_ret
    exact ⟨rfl, HBW.out⟩
set_option maxHeartbeats 20000000 in
set_option maxRecDepth 100000 in
theorem ZdV (HA : Option Addr) (n hc : Nat) (d : Nat → Bool) (v : Nat → Int) (Qh : Nat → Option Addr × Nat × Nat) (x : Int) (N qn rc : Nat) (R : Option Addr) (h : Nat → Int) (hx : x = 0 ∨ x = 1) (hN : N ≤ qn) (hN0 : x = 0 → N = 0) (h1 : 1 ≤ qn) (hq : qn ≤ 1000) (hl : ∀ i, i < qn → (h i < 18446744073709551616 ↔ i < N)) (w : World) (hh : Rgs w HA n hc d v Qh) (hqh : ∀ k, k < n → (Qh k).2.1 = 0) (ho : OkK n v) (hr : Rcs w R qn rc h) :
  Calls Tryz.prog 22 #[.agg #[.int .i64 5, .int .i64 0, .slice HA n hc, .int .i64 (qn : Int)], .agg #[.int .i64 x, .int .i64 (N : Int), .slice R qn rc]] w fun e w' => (∃ v', e = .returned (.tuple #[v', .int .i64 0]) ∧ OwB w' w.heap.size v' ([0, x, (N : Int) % 256, (N : Int) / 256] ++ recB h qn)) ∧ Below w.heap.size w w' := by
 obtain ⟨i0, hi0, hz0, hz1, hz2⟩ := info_parts Zbh
 have HHR := η hh; have HQH := η hqh; have HO := η ho; have HR := η hr; have HL := η hl; have HX0 := η hx; have HN0 := η hN0; have HN := η hN
 have hcp := hr.cap; have hmx := hr.max; unfold maxLen at hmx
 have e0 : IntKind.u8.wrap x = x := by rw [IntKind.wrap_u8]; omega
 have e1 : (N : Int).tmod 256 = (N : Int) % 256 := Int.tmod_eq_emod_of_nonneg (by omega)
 have e2 : (N : Int).tdiv 256 = (N : Int) / 256 := Int.tdiv_eq_ediv_of_nonneg (by omega)
 have e3 : IntKind.i64.wrap ((N : Int) % 256) = (N : Int) % 256 := by rw [IntKind.wrap_i64]; omega
 have e4 : IntKind.i64.wrap ((N : Int) / 256) = (N : Int) / 256 := by rw [IntKind.wrap_i64]; omega
 have e5 : IntKind.u8.wrap ((N : Int) % 256) = (N : Int) % 256 := Jq (by omega) (by omega)
 have e6 : IntKind.u8.wrap ((N : Int) / 256) = (N : Int) / 256 := Jq (by omega) (by omega)
 have e7 : IntKind.u8.wrap (N : Int) = (N : Int) % 256 := IntKind.wrap_u8 _
 clear hh hqh ho hr hl hx hN0
 go_enter Tryz.func22, Tryz.ntmps22
 go_wp2_with fail
 have HH := η (show Bx ((w.alloc (.cells #[.int .i64 5, .int .i64 0, .slice HA n hc, .int .i64 (qn : Int)] 28)).alloc (.cells #[.int .i64 x, .int .i64 (N : Int), .slice R qn rc] 55)) w.heap.size #[.int .i64 5, .int .i64 0, .slice HA n hc, .int .i64 (qn : Int)] 28 from (Bx.new _ _ _).alloc _)
 have HA_ := η (show Bx ((w.alloc (.cells #[.int .i64 5, .int .i64 0, .slice HA n hc, .int .i64 (qn : Int)] 28)).alloc (.cells #[.int .i64 x, .int .i64 (N : Int), .slice R qn rc] 55)) (w.heap.size + 1) #[.int .i64 x, .int .i64 (N : Int), .slice R qn rc] 55 from Jb (by simp))
 have HB1 := η (show Below w.heap.size w ((w.alloc (.cells #[.int .i64 5, .int .i64 0, .slice HA n hc, .int .i64 (qn : Int)] 28)).alloc (.cells #[.int .i64 x, .int .i64 (N : Int), .slice R qn rc] 55)) from J8 (J8 J0))
 generalize ((w.alloc (.cells #[.int .i64 5, .int .i64 0, .slice HA n hc, .int .i64 (qn : Int)] 28)).alloc (.cells #[.int .i64 x, .int .i64 (N : Int), .slice R qn rc] 55)) = w1 at *
 have c0 := HH.out.cell 0 (v := .int .i64 5) rfl; have c1 := HH.out.cell 1 (v := .int .i64 0) rfl; have c2 := HH.out.cell 2 (v := .slice HA n hc) rfl; have c3 := HH.out.cell 3 (v := .int .i64 (qn : Int)) rfl
 go_wp2_with fail
 clear c0 c1 c2 c3
 refine (Zc2 qn (by omega) (by omega) HA n hc d v Qh HO.out HQH.out _ (HHR.out.below HB1.out ν)).mono ?_
 rintro e w2 ⟨⟨v_, rfl, -⟩, B⟩
 have HH2 := η (HH.out.below B ν); have HA2 := η (HA_.out.below B ν); have HB2 := η (HB1.out.trans (B.mono HB1.out.size)); clear B HH HA_ HB1
 have c0 := HH2.out.cell 0 (v := .int .i64 5) rfl; have c1 := HH2.out.cell 1 (v := .int .i64 0) rfl; have c2 := HH2.out.cell 2 (v := .slice HA n hc) rfl; have c3 := HH2.out.cell 3 (v := .int .i64 (qn : Int)) rfl
 have a0 := HA2.out.cell 0 (v := .int .i64 x) rfl; have a1 := HA2.out.cell 1 (v := .int .i64 (N : Int)) rfl; have a2 := HA2.out.cell 2 (v := .slice R qn rc) rfl
 go_wp2_with fail
 clear c0 c1 c2 c3 a0 a1 a2
 refine (ZhI HA n hc x N qn rc R h HX0.out HN.out HN0.out h1 hq HL.out _ (HR.out.below HB2.out ν)).mono ?_
 rintro e w3 ⟨rfl, B⟩
 have HH3 := η (HH2.out.below B ν); have HA3 := η (HA2.out.below B ν); have HB3 := η (HB2.out.trans (B.mono HB2.out.size)); clear B HH2 HA2 HB2
 have HO1 := η (show OwB (w3.alloc (.cells #[.int .u8 0, .int .u8 x] 5)) w3.heap.size (.slice (some ⟨w3.heap.size, 0, none⟩) 2 2) [0, x] from ⟨rfl, .inr ⟨w3.heap.size, 2, #[.int .u8 0, .int .u8 x], rfl, Nat.le_refl _, Bx.new _ _ _, Nat.le_refl _, by decide, rfl, rfl⟩⟩)
 have HH4 := η (HH3.out.alloc (.cells #[.int .u8 0, .int .u8 x] 5)); have HA4 := η (HA3.out.alloc (.cells #[.int .u8 0, .int .u8 x] 5))
 have c0 := HH4.out.cell 0 (v := .int .i64 5) rfl; have c1 := HH4.out.cell 1 (v := .int .i64 0) rfl; have c2 := HH4.out.cell 2 (v := .slice HA n hc) rfl; have c3 := HH4.out.cell 3 (v := .int .i64 (qn : Int)) rfl
 have a0 := HA3.out.cell 0 (v := .int .i64 x) rfl; have a1 := HA3.out.cell 1 (v := .int .i64 (N : Int)) rfl; have a2 := HA3.out.cell 2 (v := .slice R qn rc) rfl
 have b1 := HA4.out.cell 1 (v := .int .i64 (N : Int)) rfl
 go_wp2_with (at_builtin; refine wpList_append_own _ rfl _ _ 24 rfl w3.heap.size 5 i0 (.int .u8 0) 1 1 Tryz.underlying24 hi0 hz0 hz1 hz2 rfl (by decide) _ _ _ rfl (HO1.out.alloc _) ⟨w3.heap.size + 1, 0, none⟩ 2 2 [.int .u8 ((N : Int) % 256), .int .u8 ((N : Int) / 256)] rfl rfl ?c1 ?c2 ?c3 ?c4 ?c5 ?_)
 case c1 => exact JE (by simp) _ _ _
 case c2 => simp [Value.oneCell']
 case c3 => have hl2 : ([0, x] : List Int).length = 2 := rfl; first | decide | (unfold maxLen; omega)
 case c4 => have hl2 : ([0, x] : List Int).length = 2 := rfl; first | decide | omega
 case c5 => first | (simp; done) | (simp; omega)
 intro v' w' hown2 hgrow _
 have HF5 := η ((((Fr.refl w3.heap.size none w3).alloc ν (.cells #[.int .u8 0, .int .u8 x] 5)).alloc (by simp) (.cells #[.int .u8 ((N : Int) % 256), .int .u8 ((N : Int) / 256)] 5)).grown hgrow (HO1.out.alloc _) (by simp; omega))
 have HO5 := η (show OwB w' w3.heap.size v' [0, x, (N : Int) % 256, (N : Int) / 256] from OwB.snoc2 (l := [0, x]) hown2 rfl)
 clear hown2 hgrow HO1 c0 c1 c2 c3 a0 a1 a2 b1 HH4 HA4 HH3
 generalize w' = w5 at *
 generalize v' = v5 at *
 go_wp2_with fail
 go_loopw [8, 9] (fun br ir wr => ∃ k : Nat, k ≤ qn ∧ ir = .int .i64 (k : Int) ∧ OwB wr w3.heap.size br ([0, x, (N : Int) % 256, (N : Int) / 256] ++ recB h k) ∧ Fr w3.heap.size none w3 wr) (fun _ i _ => qn - (intOf i).toNat)
 case atStart => exact ⟨0, Nat.zero_le _, rfl, by simpa [recB] using HO5.out, HF5.out⟩
 case round =>
  clear HO5 HF5
  obtain ⟨k, hk, rfl, hown, hfr⟩ := hrel
  have HOW := η hown; have HFR := η hfr; clear hown hfr
  have HAR := η (HA3.out.below HFR.out.below ν)
  have a2 := HAR.out.cell 2 (v := .slice R qn rc) rfl
  by_cases hlt : k < qn
  ·have HR3 := η (HR.out.below HB3.out ν)
   obtain ⟨b, off, rfl, hbl, hc_⟩ := HR3.out.at_ (by omega)
   have hms := η (show qn - (intOf (.int .i64 ((k : Int) + 1))).toNat < qn - (intOf (.int .i64 (k : Int))).toNat from by simp [intOf]; omega)
   have QC := η (show ∀ w', Below w3.heap.size w3 w' → (w'.cell? ⟨w.heap.size + 1, 2, none⟩ = some (.slice (some ⟨b, off, none⟩) qn rc) ∧ w'.cell? ⟨b, off + k * 2, none⟩ = some (.int .u64 (rl (h k))) ∧ w'.cell? ⟨b, off + k * 2 + 1, none⟩ = some (.int .u64 (ri (h k)))) from fun w' hb => ⟨(HA3.out.below hb ν).cell 2 rfl, (hb.cell (p := ⟨b, off + k * 2, none⟩) hbl).trans (hc_ k hlt).1, (hb.cell (p := ⟨b, off + k * 2 + 1, none⟩) hbl).trans (hc_ k hlt).2⟩)
   have HWK := η (Zbg (HR3.out.isk k hlt))
   clear hbl hc_ HR3
   have HLN := η (show ([0, x, (N : Int) % 256, (N : Int) / 256] ++ recB h k).length = 9 * k + 4 from by rw [List.length_append, Zd2]; simp; omega)
   have e9 : IntKind.u8.wrap (rl (h k)) = rl (h k) := by have := ZaO (h k); rw [IntKind.wrap_u8]; omega
   obtain ⟨y, hy⟩ : ∃ y, rl (h k) = y := ⟨_, rfl⟩
   obtain ⟨z, hz⟩ : ∃ z, ri (h k) = z := ⟨_, rfl⟩
   have HRB := η (show recB h (k + 1) = recB h k ++ ([y] ++ le8 z) from by rw [recB, rcB, hy, hz])
   rw [hy] at e9 QC
   rw [hz] at HWK QC
   clear hy hz
   have HSZ := η HFR.out.size
   go_wp2_with fail
   clear a2
   have HC9 := η (Jo (w := wr.drew) (b := wr.drew.heap.size) rfl (.int .u8 y) 5)
   have HF9 := η (show Fr w3.heap.size none w3 (wr.drew.alloc (.cells #[.int .u8 y] 5)) from HFR.out.drew.alloc HSZ.out _)
   have HO9 := η (HOW.out.drew.alloc (.cells #[.int .u8 y] 5))
   refine wp_region_held_drew (S := fun w' => (w'.cell? ⟨w.heap.size + 1, 2, none⟩ = some (.slice (some ⟨b, off, none⟩) qn rc) ∧ w'.cell? ⟨b, off + k * 2, none⟩ = some (.int .u64 y) ∧ w'.cell? ⟨b, off + k * 2 + 1, none⟩ = some (.int .u64 z))) (by kernel_rfl) (QC.out _ HFR.out.drew.below) (fun hHeld => ?_)
   refine tk 0 hHeld ?_
   refine tk 1 hHeld ?_
   refine tk 2 hHeld ?_
   refine tk 3 hHeld ?_
   refine tk 4 hHeld ?_
   refine tk 5 hHeld ?_
   refine tk 6 hHeld ?_
   refine tk 7 hHeld ?_
   refine tk 10 hHeld ?_
   refine tk 11 hHeld ?_
   refine tk 12 hHeld ?_
   refine tk 13 hHeld ?_
   refine tk 14 hHeld ?_
   refine tk 15 hHeld ?_
   refine cl 8 (fun K hK => ?_)
   go_simp
   skip
   skip
   refine hK.out _ _ (QC.out _ HF9.out.below) (fun hHeld2 => ?_)
   clear hK K hHeld; have hHeld := hHeld2; clear hHeld2
   try simp only [Act.put, List.setIfInBounds_toArray, List.set_cons_zero, List.set_cons_succ]
   refine cl 9 (fun K hK => ?_)
   skip
   refine Za3 rfl _ _ 24 rfl w3.heap.size 5 i0 (.int .u8 0) 1 1 Tryz.underlying24 hi0 hz0 hz1 hz2 rfl (by decide) _ _ _ rfl HO9.out ⟨wr.drew.heap.size, 0, none⟩ 1 1 [.int .u8 y] rfl rfl HC9.out (JC _ _) (by have := HLN.out; unfold maxLen; omega) (by have := HLN.out; omega) HF9.out.size ?_
   intro v6 w6 hown2 hgrow
   have HF6 := η (HF9.out.grown hgrow HO9.out HF9.out.size)
   have HO6 := η (show OwB w6 w3.heap.size v6 (([0, x, (N : Int) % 256, (N : Int) / 256] ++ recB h k) ++ [y]) from OwB.snoc hown2 rfl)
   clear hown2 hgrow
   skip
   refine hK.out _ _ (QC.out _ HF6.out.below) (fun hHeld2 => ?_)
   clear hK K hHeld; have hHeld := hHeld2; clear hHeld2
   try simp only [Act.put, List.setIfInBounds_toArray, List.set_cons_zero, List.set_cons_succ]
   refine cl 16 (fun K hK => ?_)
   go_simp
   refine (ZaZ w3.heap.size v6 _ z HWK.out (by rw [List.length_append, HLN.out]; simp; omega) _ HF6.out.size HO6.out).mono ?_
   rintro e w8 ⟨⟨v8, rfl, h8⟩, g8⟩
   have HF8 := η (HF6.out.trans g8)
   have HO8 := η (show OwB w8 w3.heap.size v8 ([0, x, (N : Int) % 256, (N : Int) / 256] ++ recB h (k + 1)) from by rw [HRB.out, ← List.append_assoc, ← List.append_assoc]; exact h8)
   clear h8 g8
   go_wp2_with fail
   refine hK.out _ _ (QC.out _ HF8.out.below) (fun hHeld2 => ?_)
   clear hK K hHeld; have hHeld := hHeld2; clear hHeld2
   try simp only [Act.put, List.setIfInBounds_toArray, List.set_cons_zero, List.set_cons_succ]
   refine tk 17 hHeld ?_
   refine wpAnyH_done (by kernel_rfl) ?_ _
   clear hHeld
   go_wp2_with fail
   go_roundw
   case rel => exact ⟨k + 1, hlt, by go_num, HO8.out, HF8.out⟩
   case measure => exact hms.out
  ·obtain rfl : k = qn := by omega
   go_wp2_with fail
   go_ret2
   exact ⟨⟨_, rfl, HOW.out.mono HB3.out.size⟩, HB3.out.trans (HFR.out.below.mono HB3.out.size)⟩
end Go.Proofs.YtjdiilkljgljkaaGreatDoor
namespace Go.Proofs.YtjdiilkljgljkaaGreatDoor
set_option linter.unusedVariables false
set_option linter.unusedSimpArgs false
def sg0 : List Char := List.map Char.ofNat [104, 97, 114, 110, 101, 115, 115]
def sg1 : List Char := List.map Char.ofNat [49, 50, 51, 50, 57, 97, 55, 99, 54, 55, 55, 48, 57, 97, 57, 51, 57, 48, 51, 98, 49, 54, 101, 53, 50, 52, 100, 56, 57, 50, 55, 57, 97, 54, 99, 97, 50, 102, 98, 50, 97, 49, 56, 48, 99, 53, 55, 48, 54, 98, 98, 98, 52, 55, 52, 101, 48, 100, 50, 49, 101, 97, 101, 101]
def sg2 : List Char := List.map Char.ofNat [99, 117, 116]
def sgr : List Char := List.map Char.ofNat [97, 116, 32, 103, 101, 111, 102, 101, 110, 99, 101, 47, 103, 101, 111, 102, 101, 110, 99, 101, 116, 111, 112, 46, 84, 111, 112, 79, 114, 105, 101, 110, 116, 32, 103, 101, 111, 102, 101, 110, 99, 101, 47, 103, 101, 111, 102, 101, 110, 99, 101, 116, 111, 112, 46, 84, 111, 112, 67, 105, 114, 99, 108, 101, 32, 103, 101, 111, 102, 101, 110, 99, 101, 47, 103, 101, 111, 102, 101, 110, 99, 101, 116, 111, 112, 46, 84, 111, 112, 70, 101, 110, 99, 101, 32, 103, 101, 111, 102, 101, 110, 99, 101, 47, 103, 101, 111, 102, 101, 110, 99, 101, 116, 111, 112, 46, 84, 111, 112, 66, 97, 116, 99, 104, 32, 103, 101, 111, 102, 101, 110, 99, 101, 47, 103, 101, 111, 102, 101, 110, 99, 101, 116, 111, 112, 46, 84, 111, 112, 83, 109, 97, 108, 108]
theorem ZcA (r : List Char) : ∀ l : List Char, (l.all fun c => c != Char.ofNat 32) = true → wordsSigns (l ++ Char.ofNat 32 :: r) = l :: wordsSigns r
 | [], _ => rfl
 | c :: l, h => by
  rw [List.all_cons, Bool.and_eq_true] at h
  have ih := ZcA r l h.2
  have hc : c ≠ Char.ofNat 32 := by simpa using h.1
  show wordsSigns (c :: (l ++ Char.ofNat 32 :: r)) = _
  rw [wordsSigns, ih]
  exact hc
theorem io1 : Tryz.prog.initOrder = "harness 12329a7c67709a93903b16e524d89279a6ca2fb2a180c5706bbb474e0d21eaee cut at geofence/geofencetop.TopOrient geofence/geofencetop.TopCircle geofence/geofencetop.TopFence geofence/geofencetop.TopBatch geofence/geofencetop.TopSmall" := by kernel_rfl
theorem io2 : "harness 12329a7c67709a93903b16e524d89279a6ca2fb2a180c5706bbb474e0d21eaee cut at geofence/geofencetop.TopOrient geofence/geofencetop.TopCircle geofence/geofencetop.TopFence geofence/geofencetop.TopBatch geofence/geofencetop.TopSmall" = String.ofList (sg0 ++ Char.ofNat 32 :: (sg1 ++ Char.ofNat 32 :: (sg2 ++ Char.ofNat 32 :: sgr))) := by kernel_rfl
theorem io : wordsSigns Tryz.prog.initOrder.toList = sg0 :: sg1 :: sg2 :: wordsSigns sgr := by
 rw [io1, io2, String.toList_ofList, ZcA _ sg0 (by kernel_rfl), ZcA _ sg1 (by kernel_rfl), ZcA _ sg2 (by kernel_rfl)]
theorem Zka : sg0 = "harness".toList := by kernel_rfl
theorem Zkb : sg2 = "cut".toList := by kernel_rfl
theorem Ziy : isSumSigns sg1 = true := by kernel_rfl
theorem Zej (R : List (List Char)) : stripLifts liftWords ("cut".toList :: R) = ([], "cut".toList :: R) := by kernel_rfl
section
variable {P : Program} {R : List (List Char)} (hw : wordsSigns P.initOrder.toList = "harness".toList :: sg1 :: "cut".toList :: R)
include hw
theorem Zbr : behindMainWord (wordsSigns P.initOrder.toList) = "cut".toList :: R := by
 rw [hw, behindMainWord, Ziy]; simp
theorem Zje : P.make = some .cut := by unfold Program.make; rw [Zbr hw]; simp
theorem Zjf : P.headLifts = [] := by unfold Program.headLifts; rw [Zbr hw, Zej]; simp
theorem Zil : P.liftsFinal = false := by unfold Program.liftsFinal; rw [Zbr hw, Zjf hw]; simp
theorem Zim (h1 : P.laysLater = false) (h2 : P.bearsReflect = false) (h3 : P.doorFits [] = true) : P.mayEnter = true := by
 unfold Program.mayEnter; rw [Zbr hw]; simp only [Zej, h1, h2, h3]; simp
theorem Zjg : P.mainIs = some (true, sg1) := by unfold Program.mainIs; rw [hw]; simp [Ziy]
end
theorem ioh : wordsSigns Tryz.prog.initOrder.toList = "harness".toList :: sg1 :: "cut".toList :: wordsSigns sgr := by rw [io, Zka, Zkb]
theorem ZjO : Tryz.prog.make = some .cut := Zje ioh
theorem Zjh : Tryz.prog.liftsFinal = false := Zil ioh
theorem ZjP : Tryz.prog.laysLater = false := by kernel_rfl
theorem Zji : Tryz.prog.bearsReflect = false := by kernel_rfl
theorem ZjQ : Tryz.prog.doorFits [] = true := by kernel_rfl
theorem Zjj : Tryz.prog.mayEnter = true := Zim ioh ZjP Zji ZjQ
theorem mainIs : Tryz.prog.mainIs = some (true, sg1) := Zjg ioh
theorem Zjk : sg1 = String.toList "12329a7c67709a93903b16e524d89279a6ca2fb2a180c5706bbb474e0d21eaee" := by rw [show "12329a7c67709a93903b16e524d89279a6ca2fb2a180c5706bbb474e0d21eaee" = String.ofList sg1 from by kernel_rfl, String.toList_ofList]
theorem Zin : Tryz.pinned.checked.prog.mainIs = some (true, String.toList "12329a7c67709a93903b16e524d89279a6ca2fb2a180c5706bbb474e0d21eaee") := mainIs.trans (by rw [Zjk])
theorem ZhJ {P : Program} {W : World} {x : String × DataW Unit} {rest : List (String × DataW Unit)} (h : laidMet P (x :: rest) W) : laidMet P rest W := by
 obtain ⟨ps, ⟨g', t', cs, fuel, p, q, hg', ht', hvar, hd, hr, hps⟩, hn, hc⟩ := h
 subst hps
 exact ⟨q, hr, (List.nodup_append.1 hn).2.1, fun b off hm => hc b off (List.mem_append.2 (.inr hm))⟩
end Go.Proofs.YtjdiilkljgljkaaGreatDoor
