/- A tape whose row of events lies above a fence of its own: what Note leaves as it was. -/
import Derived.Test.YtoikcgmdlccdbaaDoorTape3
namespace Go.Proofs.YtoikcgmdlccdbaaDoor
set_option linter.unusedVariables false
set_option linter.unusedSimpArgs false
open Go.RowKit Wd Go.Shelf Go.Lib

/-- block T is a tape of these events: T and its map m from n0 on, its row from nr on -/
structure TapeV (n0 nr : Nat) (w : World) (T m : Nat) (evs : List Ev) : Prop where
  hT : ∃ a n c, Bx w T #[.slice a n c, .map (some m)] 79 ∧ w.ownsRow nr 51 3 (.slice a n c) evs.length (evL evs)
  hm : ∃ D : DataW Unit, w.ownsMap Tryd.prog 3 (plainElem Tryd.prog 3) m evs.length D
  lT : n0 ≤ T
  lm : n0 ≤ m
  lr : n0 ≤ nr
  lw : nr ≤ w.heap.size
theorem TapeV.weak {n0 nr : Nat} {w : World} {T m : Nat} {evs : List Ev} (h : TapeV n0 nr w T m evs) : TapeW n0 w T m evs := by
  obtain ⟨a, n, c, h1, h2⟩ := h.hT
  refine ⟨⟨a, n, c, h1, h2.1, ?_⟩, h.hm, h.lT, h.lm⟩
  rcases h2.2 with h3 | ⟨g, cap, cur, e1, e0, e2⟩
  · exact .inl h3
  · exact .inr ⟨g, cap, cur, e1, Nat.le_trans h.lr e0, e2⟩
theorem TapeV.below {n0 nr : Nat} {w w' : World} {T m : Nat} {evs : List Ev} (h : TapeV n0 nr w T m evs) {B : Nat} (hb : Below B w w') (hB : w.heap.size ≤ B) : TapeV n0 nr w' T m evs := by
  obtain ⟨a, n, c, h1, h2⟩ := h.hT
  obtain ⟨D, es, clock, h3, h4⟩ := h.hm
  refine ⟨⟨a, n, c, h1.below hb hB, h2.1, ?_⟩, ⟨D, es, clock, (hb.block m (by have := (Array.getElem?_eq_some_iff.1 h3).1; omega)).trans h3, h4⟩, h.lT, h.lm, h.lr, Nat.le_trans h.lw hb.size⟩
  rcases h2.2 with h | ⟨g, cap, cur, e1, e2, e3, e4⟩
  · exact .inl h
  · exact .inr ⟨g, cap, cur, e1, e2, (hb.block g (by have := (Array.getElem?_eq_some_iff.1 e3).1; omega)).trans e3, e4⟩
structure NewT (w : World) (T m : Nat) : Prop where
  hT : Bx w T #[.slice none 0 0, .map (some m)] 79
  hm : ∃ D : DataW Unit, w.ownsMap Tryd.prog 3 (plainElem Tryd.prog 3) m 0 D
theorem NewT.below {w w' : World} {T m : Nat} (h : NewT w T m) {B : Nat} (hb : Below B w w') (hB : w.heap.size ≤ B) : NewT w' T m := by
  obtain ⟨D, es, clock, h3, h4⟩ := h.hm
  exact ⟨h.hT.below hb hB, D, es, clock, (hb.block m (by have := (Array.getElem?_eq_some_iff.1 h3).1; omega)).trans h3, h4⟩
theorem NewT.ltT {w : World} {T m : Nat} (h : NewT w T m) : T < w.heap.size := h.hT.lt
theorem NewT.ltm {w : World} {T m : Nat} (h : NewT w T m) : m < w.heap.size := by obtain ⟨_, es, clock, h, _⟩ := h.hm; exact (Array.getElem?_eq_some_iff.1 h).1
theorem NewT.kept {w w' : World} {T m T2 m2 nr : Nat} (h : NewT w T m) (hf : ∀ b, b < nr → b ≠ T2 → b ≠ m2 → w'.heap[b]? = w.heap[b]?) (hT : T < nr) (hm : m < nr) (h1 : T ≠ T2) (h2 : T ≠ m2) (h3 : m ≠ T2) (h4 : m ≠ m2) : NewT w' T m := by
  obtain ⟨D, es, clock, h5, h6⟩ := h.hm
  exact ⟨(hf T hT h1 h2).trans h.hT, D, es, clock, (hf m hm h3 h4).trans h5, h6⟩
theorem TapeV.ofNew {n0 nr : Nat} {w : World} {T m : Nat} (h : NewT w T m) (h1 : n0 ≤ T) (h2 : n0 ≤ m) (h3 : n0 ≤ nr) (h4 : nr ≤ w.heap.size) : TapeV n0 nr w T m [] :=
  ⟨⟨none, 0, 0, h.hT, rfl, .inl ⟨rfl, rfl⟩⟩, h.hm, h1, h2, h3, h4⟩
theorem TapeW.kept {n0 nr : Nat} {w w' : World} {T m T2 m2 : Nat} {evs : List Ev} {cs : Array Value} (h : TapeW n0 w T m evs) (hf : ∀ b, b < nr → b ≠ T2 → b ≠ m2 → w'.heap[b]? = w.heap[b]?) (hnr : w.heap.size ≤ nr) (hu : Bx w T2 cs 79) (hm2 : ∃ D : DataW Unit, w.ownsMap Tryd.prog 3 (plainElem Tryd.prog 3) m2 0 D) (h1 : T ≠ T2) (h4 : m ≠ m2) : TapeW n0 w' T m evs := by
  obtain ⟨a, n, c, hb, h2⟩ := h.hT
  obtain ⟨D, es, clock, h5, h6⟩ := h.hm
  obtain ⟨D2, es2, clock2, h7, _⟩ := hm2
  have lm := (Array.getElem?_eq_some_iff.1 h5).1
  refine ⟨⟨a, n, c, (hf T (by have := hb.lt; omega) h1 (fun e => ?_)).trans hb, h2.1, ?_⟩, ⟨D, es, clock, (hf m (by omega) (fun e => ?_) h4).trans h5, h6⟩, h.lT, h.lm⟩
  · subst e; have := (show w.heap[T]? = _ from hb).symm.trans h7; cases this
  · rcases h2.2 with h8 | ⟨g, cap, cur, e1, e2, e3, e4⟩
    · exact .inl h8
    · refine .inr ⟨g, cap, cur, e1, e2, (hf g (by have := (Array.getElem?_eq_some_iff.1 e3).1; omega) (fun e => ?_) (fun e => ?_)).trans e3, e4⟩
      · subst e; have := (show w.heap[g]? = _ from hu).symm.trans e3; simp at this
      · subst e; rw [h7] at e3; cases e3
  · subst e; have := (show w.heap[m]? = _ from hu).symm.trans h5; cases this
set_option maxHeartbeats 4000000 in
set_option maxRecDepth 100000 in
theorem tape_NewV (w : World) : Calls Tryd.prog 36 #[] w fun e w' => ∃ T m, e = .returned (.pointer (some ⟨T, 0, none⟩)) ∧ NewT w' T m ∧ w.heap.size ≤ T ∧ w.heap.size ≤ m ∧ Below w.heap.size w w' := by
  have hmm := @run_makeMap Tryd.prog
  go_enter Tryd.func36, Tryd.ntmps36
  go_wp2
  go_ret
  refine ⟨w.heap.size + 1, w.heap.size, rfl, ⟨?_, ⟨.map [], ?_⟩⟩, by omega, Nat.le_refl _, ?_⟩
  · exact bx_new (by simp)
  · obtain ⟨es, clock, h1, h2⟩ := World.ownsMap_made (H := Unit) w Tryd.prog 3 (plainElem Tryd.prog 3)
    exact ⟨es, clock, (Below.heap_alloc _ _ _ (by simp)).trans h1, h2⟩
  · exact ((Below.refl _ w).alloc (Nat.le_refl _) _).alloc (by simp) _
/-- from w on: boxes of other types than the tape's lie as they lay; so does what is no cells, above the tape's map; so does all below nr but the tape and its map -/
structure QV (T m nr : Nat) (w w' : World) : Prop where
  bx : ∀ b cs t, t ≠ 51 → b ≠ T → Bx w b cs t → Bx w' b cs t
  ks : ∀ B, m < B → KeepsFrom B w w'
  fr : ∀ b, b < nr → b ≠ T → b ≠ m → w'.heap[b]? = w.heap[b]?
  le : nr ≤ w.heap.size
theorem QV.refl (T m : Nat) {nr : Nat} (w : World) (h : nr ≤ w.heap.size) : QV T m nr w w := ⟨fun _ _ _ _ _ h => h, fun B _ => KeepsFrom.refl B w, fun _ _ _ _ => rfl, h⟩
theorem QV.trans {T m nr : Nat} {x y z : World} (h : QV T m nr x y) (k : QV T m nr y z) : QV T m nr x z := ⟨fun b cs t h1 h2 h3 => k.bx b cs t h1 h2 (h.bx b cs t h1 h2 h3), fun B hB => (h.ks B hB).trans (k.ks B hB), fun b h1 h2 h3 => (k.fr b h1 h2 h3).trans (h.fr b h1 h2 h3), h.le⟩
theorem QV.below {T m nr B : Nat} {x y z : World} (h : QV T m nr x y) (hb : Below B y z) (hB : y.heap.size ≤ B) : QV T m nr x z :=
  ⟨fun b cs t h1 h2 h3 => (h.bx b cs t h1 h2 h3).below hb hB, fun C hC => (h.ks C hC).trans ((keeps_below (hb.mono hB)).from C), fun b h1 h2 h3 => (hb.block b (by have := h.le; have := (h.ks (m + 1) (Nat.lt_succ_self _)).size; omega)).trans (h.fr b h1 h2 h3), h.le⟩
theorem QV.store {T m nr c : Nat} {x y : World} (h : QV T m nr x y) (hc : x.heap.size ≤ c) (v : Value) : QV T m nr x (y.setCell ⟨c, 0, none⟩ v) :=
  ⟨fun b cs t h1 h2 h3 => (h.bx b cs t h1 h2 h3).other v (show b ≠ c from by have := h3.lt; omega), fun C hC => (h.ks C hC).trans ((KeepsOthers.setCell _ _ _).from C), fun b h1 h2 h3 => (heap_setCell_other y ⟨c, 0, none⟩ b v (show b ≠ c from by have := h.le; omega)).trans (h.fr b h1 h2 h3), h.le⟩
theorem QV.grown {T m nr B : Nat} {x y z : World} {row : Option Nat} (h : QV T m nr x y) (hx : x.heap.size ≤ B) (hg : y.grownBy z row) (hr : ∀ r, row = some r → B ≤ r ∧ ∃ o : Obj, y.heap[r]? = some o ∧ o.isCells = false) : QV T m nr x z :=
  ⟨fun b cs t h1 h2 h3 => bx_grown (h.bx b cs t h1 h2 h3) hg hr, fun C hC => ⟨Nat.le_trans (h.ks C hC).size hg.size, fun k o h1 h2 h3 => by
    have h4 := (h.ks C hC).same k o h1 h2 h3
    exact (hg.block k (Array.getElem?_eq_some_iff.1 h4).1 (fun e => by have := (hr k e.symm).1; have := (Array.getElem?_eq_some_iff.1 h2).1; omega)).trans h4⟩,
   fun b h1 h2 h3 => (hg.block b (by have := h.le; have := (h.ks (m + 1) (Nat.lt_succ_self _)).size; omega) (fun e => by have := (hr b e.symm).1; have := h.le; omega)).trans (h.fr b h1 h2 h3), h.le⟩
theorem TapeV.store {n0 nr T m c : Nat} {w : World} {evs : List Ev} {cs : Array Value} {t : TypeId} (h : TapeV n0 nr w T m evs) (hb : Bx w c cs t) (ht : t ≠ 51) (hc : c ≠ T) (v : Value) : TapeV n0 nr (w.setCell ⟨c, 0, none⟩ v) T m evs := by
  obtain ⟨a, n, k, h1, h2⟩ := h.hT
  obtain ⟨D, es, clock, h3, h4⟩ := h.hm
  refine ⟨⟨a, n, k, h1.other v (Ne.symm hc), h2.kept (grownBy_setCell' w c v) (.inr (bx_notrow hb ht h2).symm)⟩, ⟨D, es, clock, ?_, h4⟩, h.lT, h.lm, h.lr, by have := h.lw; simp; omega⟩
  rw [heap_setCell_other w ⟨c, 0, none⟩ m v (fun e => by
    cases e
    have := (show w.heap[_]? = _ from hb).symm.trans h3; cases this)]
  exact h3
theorem TapeV.grown {n0 nr T m B : Nat} {w z : World} {evs : List Ev} {row : Option Nat} (h : TapeV n0 nr w T m evs) (hm : m < B) (hg : w.grownBy z row) (hr : ∀ r, row = some r → B ≤ r ∧ ∃ o : Obj, w.heap[r]? = some o ∧ o.isCells = false) : TapeV n0 nr z T m evs := by
  obtain ⟨a, n, k, h1, h2⟩ := h.hT
  obtain ⟨D, es, clock, h3, h4⟩ := h.hm
  refine ⟨⟨a, n, k, bx_grown h1 hg hr, h2.kept hg ?_⟩, ⟨D, es, clock, (hg.block m (Array.getElem?_eq_some_iff.1 h3).1 (fun e => by have := (hr m e.symm).1; omega)).trans h3, h4⟩, h.lT, h.lm, h.lr, Nat.le_trans h.lw hg.size⟩
  cases hv : (Value.slice a n k).ownBlock with
  | none => exact .inl rfl
  | some g =>
    refine .inr (fun e => ?_)
    obtain ⟨_, cur, hgb⟩ := row_lt h2 hv
    obtain ⟨_, o, ho, hc⟩ := hr g e.symm
    rw [hgb] at ho; cases ho; cases hc
theorem TapeV.ltT {n0 nr T m : Nat} {w : World} {evs : List Ev} (h : TapeV n0 nr w T m evs) : T < w.heap.size := h.weak.ltT
theorem TapeV.ltm {n0 nr T m : Nat} {w : World} {evs : List Ev} (h : TapeV n0 nr w T m evs) : m < w.heap.size := h.weak.ltm
set_option maxHeartbeats 8000000 in
set_option maxRecDepth 100000 in
theorem tape_NoteV (r : World) (T m nr : Nat) (evs : List Ev) (k a b : Int) (hk : (Lit.int .i64 k).wf = true) (w : World) (ht : TapeV r.heap.size nr w T m evs) (hb : Below r.heap.size r w) (hlen : evs.length ≤ 100000) :
    Calls Tryd.prog 62 #[.pointer (some ⟨T, 0, none⟩), .int .i64 k, .int .i64 a, .int .i64 b] w fun e w' => e = .returned (.tuple #[]) ∧ Below r.heap.size r w' ∧ TapeV r.heap.size nr w' T m (evs ++ [(k, a, b)]) ∧ QV T m nr w w' := by
  obtain ⟨sa, sn, sc, hbx, hrow⟩ := ht.hT
  obtain ⟨D, hmap⟩ := ht.hm
  have lT := ht.lT; have lm := ht.lm; have lnr := ht.lr; have lw := ht.lw
  obtain ⟨i0, hi0, hz0, hz1, hz2⟩ := info_parts infoEv
  have hkey := Maps.keyOf_int_mk Tryd.underlying3 hk
  have law := Maps.int_keyed Tryd.underlying3
  have hTm : T ≠ m := by
    rintro rfl
    obtain ⟨es, clock, h3, _⟩ := hmap
    have := (show w.heap[T]? = _ from hbx).symm.trans h3
    simp at this
  have c0 := hbx.cell 0 (v := .slice sa sn sc) rfl
  have HBX := Lib.hid hbx; have HROW := Lib.hid hrow; have HMAP := Lib.hid hmap; have HB := Lib.hid hb
  clear hbx hrow hmap hb ht
  have hmw : m < w.heap.size := by obtain ⟨es, clock, h3, _⟩ := HMAP.out; exact (Array.getElem?_eq_some_iff.1 h3).1
  have HMW := Lib.hid hmw; clear hmw
  go_enter Tryd.func62, Tryd.ntmps62
  go_wp2_with (at_builtin; refine wpList_append_own _ rfl _ _ 49 rfl nr 51 i0 _ 3 24 Tryd.underlying49 hi0 hz0 hz1 hz2 rfl (by decide) _ _ _ rfl (HROW.out.alloc _) ⟨w.heap.size, 0, none⟩ 1 1 (evC (k, a, b)) rfl rfl ?qn ?qo ?q6 ?qb ?qs ?_)
  case qn => exact cells_src (Bx.new w #[.int .i64 k, .int .i64 a, .int .i64 b] _) 0 _ (fun j u hj => by
      match j, hj with
      | 0, hj => simpa [evC] using hj
      | 1, hj => simpa [evC] using hj
      | 2, hj => simpa [evC] using hj
      | j + 3, hj => simp [evC] at hj)
  case qo => intro u hu; simp [evC] at hu; rcases hu with rfl | rfl | rfl <;> rfl
  case q6 => unfold maxLen; omega
  case qb => omega
  case qs => simp; omega
  intro v' w1 hown hgrow hnil
  clear hnil
  obtain ⟨g', cap', rfl⟩ := ownsRow_succ hown
  have hrow1 := HROW.out.alloc (.cells #[.int .i64 k, .int .i64 a, .int .i64 b] 51)
  have hbx1 := HBX.out.alloc (.cells #[.int .i64 k, .int .i64 a, .int .i64 b] 51)
  have hrl : ∀ j, (Value.slice sa sn sc).ownBlock = some j → nr ≤ j ∧ ∃ cur, (w.alloc (.cells #[.int .i64 k, .int .i64 a, .int .i64 b] 51)).heap[j]? = some (.cells cur 51 (0, 0)) := fun j e => row_lt hrow1 e
  have t1 := bx_kept hbx1 hgrow (bx_notrow hbx1 (by decide) hrow1)
  have hm1 : w1.heap[m]? = w.heap[m]? := by
    refine (hgrow.block m (by simp; have := HMW.out; omega) (fun e => ?_)).trans (Below.heap_alloc _ _ _ HMW.out)
    obtain ⟨_, cur, h⟩ := hrl m e.symm
    rw [Below.heap_alloc _ _ _ HMW.out] at h
    obtain ⟨es, clock, h3, _⟩ := HMAP.out
    rw [h3] at h; cases h
  have hB1 : Below r.heap.size r w1 := (HB.out.alloc HB.out.size _).grown hgrow (by have := HB.out.size; simp; omega) (fun j e => Nat.le_trans lnr (hrl j e).1)
  have hF1 : ∀ b, b < nr → w1.heap[b]? = w.heap[b]? := fun b hb => (hgrow.block b (by simp; omega) (fun e => by have := (hrl b e.symm).1; omega)).trans (Below.heap_alloc _ _ _ (by omega))
  have hK1 : KeepsOthers w w1 := (KeepsOthers.alloc w _).trans (KeepsOthers.of_grownBy hgrow (fun j o e ho => by
    obtain ⟨_, cur, h⟩ := hrl j e; rw [h] at ho; cases ho; rfl))
  have hX1 : ∀ b' cs t, t ≠ 51 → Bx w b' cs t → Bx w1 b' cs t := fun b' cs t hne hh => bx_kept (hh.alloc _) hgrow (bx_notrow (hh.alloc _) hne hrow1)
  have hown2 := hown.kept (grownBy_setCell' w1 T (.slice (some ⟨g', 0, none⟩) (evs.length + 1) cap')) (.inr (bx_notrow t1 (by decide) hown).symm)
  have t2 := t1.set 0 (.slice (some ⟨g', 0, none⟩) (evs.length + 1) cap')
  have d0 := t1.cell 0 (v := .slice sa sn sc) rfl
  have z0 := t1.free 0
  have d1 := t2.cell 1 (v := .map (some m)) rfl
  have hmap2 : (w1.setCell ⟨T, 0, none⟩ (.slice (some ⟨g', 0, none⟩) (evs.length + 1) cap')).ownsMap Tryd.prog 3 (plainElem Tryd.prog 3) m evs.length D := by
    obtain ⟨es, clock, h3, h4⟩ := HMAP.out
    exact ⟨es, clock, ((heap_setCell_other w1 ⟨T, 0, none⟩ m _ (Ne.symm hTm)).trans hm1).trans h3, h4⟩
  have hB2 : Below r.heap.size r (w1.setCell ⟨T, 0, none⟩ (.slice (some ⟨g', 0, none⟩) (evs.length + 1) cap')) := hB1.setCell (p := ⟨T, 0, none⟩) lT _
  have hK2 := hK1.trans (KeepsOthers.setCell w1 ⟨T, 0, none⟩ (.slice (some ⟨g', 0, none⟩) (evs.length + 1) cap'))
  have hX2 : ∀ b' cs t, t ≠ 51 → b' ≠ T → Bx w b' cs t → Bx (w1.setCell ⟨T, 0, none⟩ (.slice (some ⟨g', 0, none⟩) (evs.length + 1) cap')) b' cs t := fun b' cs t h1 h2 h3 => (hX1 b' cs t h1 h3).other _ h2
  have T2 := Lib.hid t2; have O2 := Lib.hid hown2; have M2 := Lib.hid hmap2; have B2 := Lib.hid hB2; have K2 := Lib.hid hK2; have X2 := Lib.hid hX2; have F1 := Lib.hid hF1
  clear hown hgrow hrow1 hbx1 hrl t1 hm1 hB1 hK1 hX1 hown2 t2 hmap2 hB2 hK2 hX2 hF1
  go_wp2_with (first
    | (at_lookup; refine wpList_lookup_own_int _ rfl _ _ 77 rfl 3 3 .i64 law Tryd.underlying77 Tryd.underlying3 (Tryd.zeroValue3 _) m evs.length D rfl M2.out _ _ rfl hkey ?_; intro cc hat hwc; clear hat hwc)
    | (at_mapUpdate; refine wpList_mapUpdate_own _ rfl _ _ _ 77 rfl 3 3 law Tryd.underlying77 (plainElem Tryd.prog 3) m evs.length D rfl M2.out (by unfold maxLen; omega) _ _ _ rfl rfl hkey _ [] (plainElem_int Tryd.underlying3 (wrap64_wf _)) ?_; intro w3 hown3 hgrow3; have O3 := Lib.hid hown3; have G3 := Lib.hid hgrow3; clear hown3 hgrow3))
  have hT3 : some T ≠ some m := by simpa using hTm
  have t3 := bx_kept T2.out G3.out hT3
  go_end0
  have hz : w.heap.size ≤ w3.heap.size := Nat.le_trans K2.out.size G3.out.size
  refine ⟨rfl, B2.out.grown G3.out (Nat.le_trans HB.out.size K2.out.size) (fun j e => by cases e; exact lm), ⟨⟨_, _, _, by simpa using t3, ?_⟩, ⟨_, by rw [List.length_append]; exact O3.out⟩, lT, lm, lnr, Nat.le_trans lw hz⟩, ⟨fun b' cs t h1 h2 h3 => bx_kept (X2.out b' cs t h1 h2 h3) G3.out ?_, fun B hB => (K2.out.from B).trans (KeepsFrom.of_grownBy G3.out (fun j e => by cases e; exact hB)), fun b hb h1 h2 => ?_, lw⟩⟩
  · rw [evL_app, List.length_append]
    have := O2.out.kept G3.out (.inr (fun e => by
      obtain ⟨_, cur, h⟩ := row_lt O2.out e
      obtain ⟨es, clock, h4, _⟩ := M2.out
      rw [h] at h4; cases h4))
    simpa [evL] using this
  · intro e
    cases e
    have h4 := X2.out _ cs t h1 h2 h3
    obtain ⟨es, clock, h5, _⟩ := M2.out
    rw [show _ = _ from h4] at h5; cases h5
  · refine (G3.out.block b (Nat.lt_of_lt_of_le (Nat.lt_of_lt_of_le hb lw) K2.out.size) (fun e => h2 (by cases e; rfl))).trans ((heap_setCell_other w1 ⟨T, 0, none⟩ b _ (fun e => h1 ?_)).trans (F1.out b hb))
    first | exact e | exact e.symm
theorem eds_len {n : Nat} : (eds n).length ≤ n := by
  unfold eds; split
  · rw [fup_len (Nat.le_refl _)]; exact Nat.le_refl _
  · exact Nat.zero_le _
theorem valEvs_le {n : Nat} (h : n ≤ 70) : (valEvs n (eds n)).length ≤ 100000 := by
  have h1 := valEvs_len (eds n); have h2 := Nat.mul_le_mul (Nat.le_trans (eds_len (n := n)) h) h
  omega
theorem locEvs_le {n : Nat} (h : n ≤ 70) : (locEvs n (eds n)).length ≤ 100000 := by
  have h1 := locEvs_len (eds n); have h2 := eds_len (n := n); omega
end Go.Proofs.YtoikcgmdlccdbaaDoor
