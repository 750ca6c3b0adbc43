/- A tape in memory; what New, Note and Events do with it. -/
import Derived.Test.YtoikcgmdlccdbaaDoorIns
import Derived.Test.YtoikcgmdlccdbaaDoorPolyL
import Derived.Maps.OwnOps
import Derived.Maps.Keyed
import Derived.RangeFuncWrites
namespace Go.Proofs.YtoikcgmdlccdbaaDoor
set_option linter.unusedVariables false
set_option linter.unusedSimpArgs false
open Go.RowKit Wd Go.Shelf Go.Lib

abbrev Ev := Int × Int × Int
def evC (e : Ev) : List Value := [.int .i64 e.1, .int .i64 e.2.1, .int .i64 e.2.2]
def evL : List Ev → List Value
  | [] => []
  | e :: r => evC e ++ evL r
theorem evL_len : ∀ l, (evL l).length = l.length * 3
  | [] => rfl
  | e :: r => by rw [evL, List.length_append, evL_len r]; simp [evC]; omega
theorem evL_app : ∀ (l k : List Ev), evL (l ++ k) = evL l ++ evL k
  | [], k => rfl
  | e :: r, k => by rw [List.cons_append, evL, evL, evL_app r k, List.append_assoc]
theorem evL_one : ∀ l, ∀ u ∈ evL l, u.oneCell' = true
  | [], u, h => by simp [evL] at h
  | e :: r, u, h => by
    rw [evL, List.mem_append] at h
    rcases h with h | h
    · simp [evC] at h; rcases h with rfl | rfl | rfl <;> rfl
    · exact evL_one r u h
/-- block T is a tape of these events, in memory of its own from n0 on -/
structure TapeW (n0 : Nat) (w : World) (T m : Nat) (evs : List Ev) : Prop where
  hT : ∃ a n c, Bx w T #[.slice a n c, .map (some m)] 79 ∧ w.ownsRow n0 51 3 (.slice a n c) evs.length (evL evs)
  hm : ∃ D : DataW Unit, w.ownsMap Tryd.prog 3 (plainElem Tryd.prog 3) m evs.length D
  lT : n0 ≤ T
  lm : n0 ≤ m
theorem slice_of_row {w : World} {n0 : Nat} {e : TypeId} {k n : Nat} {v : Value} {xs : List Value} (h : w.ownsRow n0 e k v n xs) : ∃ a l c, v = .slice a l c := by
  rcases h.2 with ⟨h, _⟩ | ⟨g, cap, cur, h, _⟩
  · exact ⟨_, _, _, h⟩
  · exact ⟨_, _, _, h⟩
theorem TapeW.below {n0 : Nat} {w w' : World} {T m : Nat} {evs : List Ev} (h : TapeW n0 w T m evs) {B : Nat} (hb : Below B w w') (hB : w.heap.size ≤ B) : TapeW n0 w' T m evs := by
  obtain ⟨a, n, c, h1, h2⟩ := h.hT
  obtain ⟨D, es, clock, h3, h4⟩ := h.hm
  refine ⟨⟨a, n, c, h1.below hb hB, h2.1, ?_⟩, ⟨D, es, clock, (hb.block m (by have := (Array.getElem?_eq_some_iff.1 h3).1; omega)).trans h3, h4⟩, h.lT, h.lm⟩
  rcases h2.2 with h | ⟨g, cap, cur, e1, e2, e3, e4⟩
  · exact .inl h
  · exact .inr ⟨g, cap, cur, e1, e2, (hb.block g (by have := (Array.getElem?_eq_some_iff.1 e3).1; omega)).trans e3, e4⟩
theorem infoEv : (Tryd.prog.info? 51).map (fun i => (i.zero, i.size, i.bytes)) = some (some (.agg #[.int .i64 0, .int .i64 0, .int .i64 0]), 3, 24) := by kernel_rfl

set_option maxHeartbeats 4000000 in
set_option maxRecDepth 100000 in
theorem tape_New (w : World) : Calls Tryd.prog 36 #[] w fun e w' => ∃ T m, e = .returned (.pointer (some ⟨T, 0, none⟩)) ∧ TapeW w.heap.size w' T m [] ∧ Below w.heap.size w w' ∧ m < w'.heap.size := by
  have hmm := @run_makeMap Tryd.prog
  go_enter Tryd.func36, Tryd.ntmps36
  go_wp2
  go_ret
  refine ⟨w.heap.size + 1, w.heap.size, rfl, ⟨⟨none, 0, 0, ?_, rfl, .inl ⟨rfl, rfl⟩⟩, ⟨.map [], ?_⟩, by omega, Nat.le_refl _⟩, ?_, ?_⟩
  · exact bx_new (by simp)
  · obtain ⟨es, clock, h1, h2⟩ := World.ownsMap_made (H := Unit) w Tryd.prog 3 (plainElem Tryd.prog 3)
    exact ⟨es, clock, (Below.heap_alloc _ _ _ (by simp)).trans h1, h2⟩
  · exact ((Below.refl _ w).alloc (Nat.le_refl _) _).alloc (by simp) _
  · simp; omega
theorem bx_notrow {W : World} {b : Nat} {cs : Array Value} {t e : TypeId} {base size k : Nat} {v : Value} {xs : List Value} (h : Bx W b cs t) (hte : t ≠ e) (hr : W.ownsRow base e size v k xs) : some b ≠ v.ownBlock := by
  rcases hr.2 with ⟨rfl, _⟩ | ⟨g, cap, cur, rfl, _, hgb, _⟩
  · simp [Value.ownBlock]
  · intro e'
    obtain rfl : b = g := by simpa [Value.ownBlock] using e'
    have := (show W.heap[b]? = _ from h).symm.trans hgb
    simp at this
    exact hte this.2
theorem bx_kept {W W' : World} {row : Option Nat} {b : Nat} {cs : Array Value} {t : TypeId} (h : Bx W b cs t) (hg : W.grownBy W' row) (hne : some b ≠ row) : Bx W' b cs t := (hg.block b h.lt hne).trans h
theorem row_lt {n0 g : Nat} {w : World} {e : TypeId} {k n : Nat} {v : Value} {xs : List Value} (h : w.ownsRow n0 e k v n xs) (hg : v.ownBlock = some g) : n0 ≤ g ∧ ∃ cur, w.heap[g]? = some (.cells cur e (0, 0)) := by
  rcases h.2 with ⟨rfl, _⟩ | ⟨g', cap, cur, rfl, h1, h2, _⟩
  · simp [Value.ownBlock] at hg
  · obtain rfl : g' = g := by simpa [Value.ownBlock] using hg
    exact ⟨h1, cur, h2⟩
set_option maxHeartbeats 8000000 in
set_option maxRecDepth 100000 in
theorem tape_Note (r : World) (T m : Nat) (evs : List Ev) (k a b : Int) (hk : (Lit.int .i64 k).wf = true) (w : World) (ht : TapeW r.heap.size w T m evs) (hb : Below r.heap.size r w) (hlen : evs.length ≤ 100000) :
    Calls Tryd.prog 62 #[.pointer (some ⟨T, 0, none⟩), .int .i64 k, .int .i64 a, .int .i64 b] w fun e w' => e = .returned (.tuple #[]) ∧ Below r.heap.size r w' ∧ TapeW r.heap.size w' T m (evs ++ [(k, a, b)]) ∧ (∀ b' cs t, t ≠ 51 → b' ≠ T → Bx w b' cs t → Bx w' b' cs t) ∧ (∀ B, m < B → KeepsFrom B w w') := by
  obtain ⟨sa, sn, sc, hbx, hrow⟩ := ht.hT
  obtain ⟨D, hmap⟩ := ht.hm
  have lT := ht.lT; have lm := ht.lm
  obtain ⟨i0, hi0, hz0, hz1, hz2⟩ := info_parts infoEv
  have hkey := Maps.keyOf_int_mk Tryd.underlying3 hk
  have law := Maps.int_keyed Tryd.underlying3
  have hTm : T ≠ m := by
    rintro rfl
    obtain ⟨es, clock, h3, _⟩ := hmap
    have := (show w.heap[T]? = _ from hbx).symm.trans h3
    simp at this
  have c0 := hbx.cell 0 (v := .slice sa sn sc) rfl
  have HBX := Lib.hid hbx; have HROW := Lib.hid hrow; have HMAP := Lib.hid hmap; have HB := Lib.hid hb
  clear hbx hrow hmap hb ht
  have hmw : m < w.heap.size := by obtain ⟨es, clock, h3, _⟩ := HMAP.out; exact (Array.getElem?_eq_some_iff.1 h3).1
  have HMW := Lib.hid hmw; clear hmw
  go_enter Tryd.func62, Tryd.ntmps62
  go_wp2_with (at_builtin; refine wpList_append_own _ rfl _ _ 49 rfl r.heap.size 51 i0 _ 3 24 Tryd.underlying49 hi0 hz0 hz1 hz2 rfl (by decide) _ _ _ rfl (HROW.out.alloc _) ⟨w.heap.size, 0, none⟩ 1 1 (evC (k, a, b)) rfl rfl ?qn ?qo ?q6 ?qb ?qs ?_)
  case qn => exact cells_src (Bx.new w #[.int .i64 k, .int .i64 a, .int .i64 b] _) 0 _ (fun j u hj => by
      match j, hj with
      | 0, hj => simpa [evC] using hj
      | 1, hj => simpa [evC] using hj
      | 2, hj => simpa [evC] using hj
      | j + 3, hj => simp [evC] at hj)
  case qo => intro u hu; simp [evC] at hu; rcases hu with rfl | rfl | rfl <;> rfl
  case q6 => unfold maxLen; omega
  case qb => omega
  case qs => have := HB.out.size; simp; omega
  intro v' w1 hown hgrow hnil
  clear hnil
  obtain ⟨g', cap', rfl⟩ := ownsRow_succ hown
  have hrow1 := HROW.out.alloc (.cells #[.int .i64 k, .int .i64 a, .int .i64 b] 51)
  have hbx1 := HBX.out.alloc (.cells #[.int .i64 k, .int .i64 a, .int .i64 b] 51)
  have hrl : ∀ j, (Value.slice sa sn sc).ownBlock = some j → r.heap.size ≤ j ∧ ∃ cur, (w.alloc (.cells #[.int .i64 k, .int .i64 a, .int .i64 b] 51)).heap[j]? = some (.cells cur 51 (0, 0)) := fun j e => row_lt hrow1 e
  have t1 := bx_kept hbx1 hgrow (bx_notrow hbx1 (by decide) hrow1)
  have hm1 : w1.heap[m]? = w.heap[m]? := by
    refine (hgrow.block m (by simp; have := HMW.out; omega) (fun e => ?_)).trans (Below.heap_alloc _ _ _ HMW.out)
    obtain ⟨_, cur, h⟩ := hrl m e.symm
    rw [Below.heap_alloc _ _ _ HMW.out] at h
    obtain ⟨es, clock, h3, _⟩ := HMAP.out
    rw [h3] at h; cases h
  have hB1 : Below r.heap.size r w1 := (HB.out.alloc HB.out.size _).grown hgrow (by have := HB.out.size; simp; omega) (fun j e => (hrl j e).1)
  have hK1 : KeepsOthers w w1 := (KeepsOthers.alloc w _).trans (KeepsOthers.of_grownBy hgrow (fun j o e ho => by
    obtain ⟨_, cur, h⟩ := hrl j e; rw [h] at ho; cases ho; rfl))
  have hX1 : ∀ b' cs t, t ≠ 51 → Bx w b' cs t → Bx w1 b' cs t := fun b' cs t hne hh => bx_kept (hh.alloc _) hgrow (bx_notrow (hh.alloc _) hne hrow1)
  have hown2 := hown.kept (grownBy_setCell' w1 T (.slice (some ⟨g', 0, none⟩) (evs.length + 1) cap')) (.inr (bx_notrow t1 (by decide) hown).symm)
  have t2 := t1.set 0 (.slice (some ⟨g', 0, none⟩) (evs.length + 1) cap')
  have d0 := t1.cell 0 (v := .slice sa sn sc) rfl
  have z0 := t1.free 0
  have d1 := t2.cell 1 (v := .map (some m)) rfl
  have hmap2 : (w1.setCell ⟨T, 0, none⟩ (.slice (some ⟨g', 0, none⟩) (evs.length + 1) cap')).ownsMap Tryd.prog 3 (plainElem Tryd.prog 3) m evs.length D := by
    obtain ⟨es, clock, h3, h4⟩ := HMAP.out
    exact ⟨es, clock, ((heap_setCell_other w1 ⟨T, 0, none⟩ m _ (Ne.symm hTm)).trans hm1).trans h3, h4⟩
  have hB2 : Below r.heap.size r (w1.setCell ⟨T, 0, none⟩ (.slice (some ⟨g', 0, none⟩) (evs.length + 1) cap')) := hB1.setCell (p := ⟨T, 0, none⟩) lT _
  have hK2 := hK1.trans (KeepsOthers.setCell w1 ⟨T, 0, none⟩ (.slice (some ⟨g', 0, none⟩) (evs.length + 1) cap'))
  have hX2 : ∀ b' cs t, t ≠ 51 → b' ≠ T → Bx w b' cs t → Bx (w1.setCell ⟨T, 0, none⟩ (.slice (some ⟨g', 0, none⟩) (evs.length + 1) cap')) b' cs t := fun b' cs t h1 h2 h3 => (hX1 b' cs t h1 h3).other _ h2
  have T2 := Lib.hid t2; have O2 := Lib.hid hown2; have M2 := Lib.hid hmap2; have B2 := Lib.hid hB2; have K2 := Lib.hid hK2; have X2 := Lib.hid hX2
  clear hown hgrow hrow1 hbx1 hrl t1 hm1 hB1 hK1 hX1 hown2 t2 hmap2 hB2 hK2 hX2
  go_wp2_with (first
    | (at_lookup; refine wpList_lookup_own_int _ rfl _ _ 77 rfl 3 3 .i64 law Tryd.underlying77 Tryd.underlying3 (Tryd.zeroValue3 _) m evs.length D rfl M2.out _ _ rfl hkey ?_; intro cc hat hwc; clear hat hwc)
    | (at_mapUpdate; refine wpList_mapUpdate_own _ rfl _ _ _ 77 rfl 3 3 law Tryd.underlying77 (plainElem Tryd.prog 3) m evs.length D rfl M2.out (by unfold maxLen; omega) _ _ _ rfl rfl hkey _ [] (plainElem_int Tryd.underlying3 (wrap64_wf _)) ?_; intro w3 hown3 hgrow3; have O3 := Lib.hid hown3; have G3 := Lib.hid hgrow3; clear hown3 hgrow3))
  have hT3 : some T ≠ some m := by simpa using hTm
  have t3 := bx_kept T2.out G3.out hT3
  go_end0
  refine ⟨rfl, B2.out.grown G3.out (Nat.le_trans HB.out.size K2.out.size) (fun j e => by cases e; exact lm), ⟨⟨_, _, _, by simpa using t3, ?_⟩, ⟨_, by rw [List.length_append]; exact O3.out⟩, lT, lm⟩, fun b' cs t h1 h2 h3 => bx_kept (X2.out b' cs t h1 h2 h3) G3.out ?_, fun B hB => (K2.out.from B).trans (KeepsFrom.of_grownBy G3.out (fun j e => by cases e; exact hB))⟩
  · rw [evL_app, List.length_append]
    have := O2.out.kept G3.out (.inr (fun e => by
      obtain ⟨_, cur, h⟩ := row_lt O2.out e
      obtain ⟨es, clock, h4, _⟩ := M2.out
      rw [h] at h4; cases h4))
    simpa [evL] using this
  · intro e
    cases e
    have h4 := X2.out _ cs t h1 h2 h3
    obtain ⟨es, clock, h5, _⟩ := M2.out
    rw [show _ = _ from h4] at h5; cases h5
/-- a slice of events -/
structure EvS (w : World) (A : Option Addr) (c : Nat) (l : List Ev) : Prop where
  cap : l.length ≤ c
  max : c ≤ maxLen
  at_ : 0 < l.length → ∃ b off, A = some ⟨b, off, none⟩ ∧ b < w.heap.size ∧ ∀ j u, (evL l)[j]? = some u → w.cell? ⟨b, off + j, none⟩ = some u
theorem EvS.below {w w' : World} {B : Nat} {A : Option Addr} {c : Nat} {l : List Ev} (h : EvS w A c l) (hb : Below B w w') (hB : w.heap.size ≤ B) : EvS w' A c l :=
  ⟨h.cap, h.max, fun hn => by
    obtain ⟨b, off, e, hlt, hc⟩ := h.at_ hn
    exact ⟨b, off, e, Nat.lt_of_lt_of_le hlt hb.size, fun j u hj => (hb.cell (p := ⟨b, off + j, none⟩) (by show b < B; omega)).trans (hc j u hj)⟩⟩
theorem evS_row {w : World} {n0 : Nat} {A : Option Addr} {n c : Nat} {l : List Ev} (h : w.ownsRow n0 51 3 (.slice A n c) l.length (evL l)) : n = l.length ∧ EvS w A c l := by
  rcases h.2 with ⟨e, h0⟩ | ⟨g, cap, cur, e, h1, h2, h3, h4, h5, h6⟩
  · cases e
    exact ⟨h0.symm, by omega, Nat.zero_le _, fun hn => by omega⟩
  · cases e
    refine ⟨rfl, h3, h4, fun _ => ⟨g, 0, rfl, (Array.getElem?_eq_some_iff.1 h2).1, fun j u hj => ?_⟩⟩
    rw [Nat.zero_add]
    refine Bx.cell (t := 51) (cs := cur) h2 j ?_
    rw [← h6, List.getElem?_take] at hj
    split at hj
    · simpa using hj
    · cases hj
set_option maxHeartbeats 4000000 in
set_option maxRecDepth 100000 in
theorem clone_evs (ad : Addr) (c : Nat) (l : List Ev) (w : World) (hp : EvS w (some ad) c l) (hn : l.length ≤ 100000) :
    Calls Tryd.prog 68 #[.slice (some ad) l.length c] w fun e w' => (∃ A' c', e = .returned (.slice A' l.length c') ∧ EvS w' A' c' l) ∧ Below w.heap.size w w' := by
  have q22 : ∀ (w : World) (a : Option Addr) (n c n' c' : Nat), (binOp .eql 49 (.slice a n c) (.slice none n' c')).run Tryd.prog w = .ok (.bool a.isNone) w := fun w a n c n' c' => Lib.run_eql_slice_nil w _ _ a n c n' c' Tryd.underlying49
  obtain ⟨i0, hi0, hz0, hz1, hz2⟩ := info_parts infoEv
  have HP := Lib.hid hp; clear hp
  go_enter Tryd.func68, Tryd.ntmps68
  go_wp2_with (at_builtin; refine wpList_append_own _ rfl _ _ 49 rfl w.heap.size 51 i0 _ 3 24 Tryd.underlying49 hi0 hz0 hz1 hz2 rfl (by decide) _ _ _ rfl (World.ownsRow_made w #[] 0 (Nat.le_refl _) (Nat.zero_le _) (by simp)) ad l.length c (evL l) rfl ?qc1 ?qc2 ?qc3 ?qc4 ?qc5 ?qc6 ?_)
  case qc1 => exact evL_len l
  case qc2 =>
    intro j u hj
    have hlt : j < (evL l).length := (Array.getElem?_eq_some_iff.1 (by simpa using hj : (evL l).toArray[j]? = some u)).1 |> fun h => by simpa using h
    rw [evL_len] at hlt
    obtain ⟨b, off, e, hb, hc⟩ := HP.out.at_ (by omega)
    cases e
    have ea : (⟨b, off, none⟩ : Addr).add j = ⟨b, off + j, none⟩ := by unfold Addr.add; split <;> simp_all
    rw [ea]; exact Lib.cell?_alloc_some _ (hc j u hj)
  case qc3 => exact evL_one l
  case qc4 => unfold maxLen; omega
  case qc5 => omega
  case qc6 => simp
  intro v' w1 hown hgrow hnil
  clear hnil
  obtain ⟨a', n', c', rfl⟩ := slice_of_row hown
  have HO := Lib.hid (show w1.ownsRow w.heap.size 51 3 (.slice a' n' c') l.length (evL l) by simpa using hown); have HG := Lib.hid hgrow; clear hown hgrow
  obtain ⟨rfl, hE⟩ := evS_row HO.out
  have HE := Lib.hid hE; clear hE
  go_wp2
  go_ret
  have hB : Below w.heap.size w w1 := ((Below.refl _ w).alloc (Nat.le_refl _) _).grown HG.out (by simp) (by intro k hk; simp [Value.ownBlock] at hk; omega)
  exact ⟨⟨_, _, rfl, HE.out⟩, hB⟩
set_option maxHeartbeats 4000000 in
theorem clone_evs_nil (n c : Nat) (w : World) : Calls Tryd.prog 68 #[.slice none n c] w fun e w' => e = .returned (.slice none 0 0) ∧ Below w.heap.size w w' := by
  have q22 : ∀ (w : World) (a : Option Addr) (n c n' c' : Nat), (binOp .eql 49 (.slice a n c) (.slice none n' c')).run Tryd.prog w = .ok (.bool a.isNone) w := fun w a n c n' c' => Lib.run_eql_slice_nil w _ _ a n c n' c' Tryd.underlying49
  go_enter Tryd.func68, Tryd.ntmps68
  go_wp2
  go_ret
  exact ⟨rfl, Below.refl _ _⟩
end Go.Proofs.YtoikcgmdlccdbaaDoor
