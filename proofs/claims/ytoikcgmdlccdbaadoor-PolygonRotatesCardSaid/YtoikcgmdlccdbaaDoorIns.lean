/- slices.Clone of points, and slices.Insert of a point into a row of four: what alive of layer 14's laws calls. -/
import Derived.Test.YtoikcgmdlccdbaaDoorPolyV
import Derived.Shelf.Spec.SlicesInsertGrow
import Derived.Laws.AppendOwn
namespace Go.Proofs.YtoikcgmdlccdbaaDoor
set_option linter.unusedVariables false
set_option linter.unusedSimpArgs false
open Go.RowKit Wd Go.Shelf Go.Lib

/-- the cells of points -/
def ptsL (f g : Nat → Int) : Nat → List Value
  | 0 => []
  | k + 1 => ptsL f g k ++ [.int .i64 (f k), .int .i64 (g k)]
theorem ptsL_len (f g : Nat → Int) : ∀ k, (ptsL f g k).length = k * 2
  | 0 => rfl
  | k + 1 => by rw [ptsL, List.length_append, ptsL_len f g k]; simp; omega
theorem ptsL_get (f g : Nat → Int) : ∀ k i, i < k → (ptsL f g k)[i * 2]? = some (.int .i64 (f i)) ∧ (ptsL f g k)[i * 2 + 1]? = some (.int .i64 (g i))
  | k + 1, i, h => by
    have hl := ptsL_len f g k
    rw [ptsL]
    by_cases e : i = k
    · subst e
      rw [List.getElem?_append_right (by omega), List.getElem?_append_right (by omega), hl]
      simp
    · have := ptsL_get f g k i (by omega)
      rw [List.getElem?_append_left (by omega), List.getElem?_append_left (by omega)]; exact this
theorem ptsL_one (f g : Nat → Int) : ∀ k, ∀ u ∈ ptsL f g k, u.oneCell' = true
  | 0, u, h => by simp [ptsL] at h
  | k + 1, u, h => by
    rw [ptsL, List.mem_append] at h
    rcases h with h | h
    · exact ptsL_one f g k u h
    · simp at h; rcases h with rfl | rfl <;> rfl
theorem pts_src {w : World} {b off n c : Nat} {f g : Nat → Int} (h : Pts w (some ⟨b, off, none⟩) n c f g) : ∀ j u, (ptsL f g n)[j]? = some u → w.cell? ((⟨b, off, none⟩ : Addr).add j) = some u := by
  intro j u hj
  have hlt : j < n * 2 := by have := (List.getElem?_eq_some_iff.1 hj).1; rw [ptsL_len] at this; exact this
  obtain ⟨b', off', e, _, hc⟩ := h.at_ (by omega)
  cases e
  have ea : (⟨b, off, none⟩ : Addr).add j = ⟨b, off + j, none⟩ := by unfold Addr.add; split <;> simp_all
  rw [ea]
  obtain ⟨q, hq, e⟩ : ∃ q, q < n ∧ (j = q * 2 ∨ j = q * 2 + 1) := ⟨j / 2, by omega, by omega⟩
  obtain ⟨g1, g2⟩ := ptsL_get f g n q hq
  obtain ⟨c1, c2⟩ := hc q hq
  rcases e with rfl | rfl
  · rw [hj] at g1; cases g1; exact c1
  · rw [hj] at g2; cases g2; rw [← Nat.add_assoc]; exact c2
theorem pts_src' {w : World} {ad : Addr} {n c : Nat} {f g : Nat → Int} (h : Pts w (some ad) n c f g) : ∀ j u, (ptsL f g n)[j]? = some u → w.cell? (ad.add j) = some u := by
  cases n with
  | zero => intro j u hj; simp [ptsL] at hj
  | succ m =>
    obtain ⟨b, off, e, _⟩ := h.at_ (by omega)
    cases e
    exact pts_src h
/-- a row that begins with the points is a slice of them -/
theorem bx_pts {w : World} {b n c : Nat} {f g : Nat → Int} {cur : Array Value} {t : TypeId} (h : Bx w b cur t) (hc : cur.toList.take (n * 2) = ptsL f g n) (hn : n ≤ c) (hm : c ≤ maxLen) (hi : ∀ i, i < n → IsI (f i) ∧ IsI (g i)) : Pts w (some ⟨b, 0, none⟩) n c f g := by
  have hg : ∀ j u, (ptsL f g n)[j]? = some u → w.cell? ⟨b, j, none⟩ = some u := fun j u hj => by
    refine h.cell j ?_
    rw [← hc, List.getElem?_take] at hj
    split at hj
    · simpa using hj
    · cases hj
  refine ⟨hn, hm, hi, fun _ => ⟨b, 0, rfl, h.lt, fun i hi' => ?_⟩⟩
  obtain ⟨g1, g2⟩ := ptsL_get f g n i hi'
  rw [Nat.zero_add]
  exact ⟨hg _ _ g1, hg _ _ g2⟩
theorem infoPt : (Tryd.prog.info? 28).map (fun i => (i.zero, i.size, i.bytes)) = some (some (.agg #[.int .i64 0, .int .i64 0]), 2, 16) := by kernel_rfl

set_option maxHeartbeats 4000000 in
set_option maxRecDepth 100000 in
/-- slices.Clone of a slice of points that is not nil -/
theorem clone_row (ad : Addr) (n c : Nat) (f g : Nat → Int) (w : World) (hp : Pts w (some ad) n c f g) (hn : n ≤ 1000) :
    Calls Tryd.prog 46 #[.slice (some ad) n c] w fun e w' => (∃ g' c' cur, e = .returned (.slice (some ⟨g', 0, none⟩) n c') ∧ w.heap.size ≤ g' ∧ Bx w' g' cur 28 ∧ n ≤ c' ∧ c' ≤ maxLen ∧ cur.size = c' * 2 ∧ cur.toList.take (n * 2) = ptsL f g n) ∧ Below w.heap.size w w' := by
  have q22 : ∀ (w : World) (a : Option Addr) (n c n' c' : Nat), (binOp .eql 35 (.slice a n c) (.slice none n' c')).run Tryd.prog w = .ok (.bool a.isNone) w := fun w a n c n' c' => Lib.run_eql_slice_nil w _ _ a n c n' c' Tryd.underlying35
  obtain ⟨i0, hi0, hz0, hz1, hz2⟩ := info_parts infoPt
  have mixed : Tryd.prog.follows .mixedOrders = true := by kernel_rfl
  have HP := Lib.hid hp; clear hp
  go_enter Tryd.func46, Tryd.ntmps46
  go_wp2_with (at_builtin; refine wpList_append_own _ rfl _ _ 35 rfl w.heap.size 28 i0 _ 2 16 Tryd.underlying35 hi0 hz0 hz1 hz2 rfl (by decide) _ _ _ rfl (World.ownsRow_made w #[] 0 (Nat.le_refl _) (Nat.zero_le _) (by simp)) ad n c (ptsL f g n) rfl ?qc1 ?qc2 ?qc3 ?qc4 ?qc5 ?qc6 ?_)
  case qc1 => exact ptsL_len f g n
  case qc2 => exact pts_src' (HP.out.alloc _)
  case qc3 => exact ptsL_one f g n
  case qc4 => unfold maxLen; omega
  case qc5 => omega
  case qc6 => simp
  intro v' w1 hown hgrow hnil
  have HO := Lib.hid hown; have HG := Lib.hid hgrow; have HN := Lib.hid hnil; clear hown hgrow hnil
  go_wp2
  go_ret
  have hB : Below w.heap.size w w1 := ((Below.refl _ w).alloc (Nat.le_refl _) _).grown HG.out (by simp) (by intro k hk; simp [Value.ownBlock] at hk; omega)
  refine ⟨?_, hB⟩
  rcases HO.out.2 with ⟨h1, h2⟩ | ⟨g', cap, cur, h1, h2, h3, h4, h5, h6, h7⟩
  · exact (HN.out h1).elim
  · refine ⟨g', cap, cur, ?_, h2, h3, by omega, h5, h6, by simpa using h7⟩
    rw [h1]; simp
theorem szPt : ∀ w, (Go.sizeOf 28).run Tryd.prog w = .ok 2 w := Tryd.sizeOf28
/-- four points, and one that comes between the first two -/
def row4 (x0 y0 x1 y1 x2 y2 x3 y3 : Int) : List Value := [.int .i64 x0, .int .i64 y0, .int .i64 x1, .int .i64 y1, .int .i64 x2, .int .i64 y2, .int .i64 x3, .int .i64 y3]
def row5 (x0 y0 px py x1 y1 x2 y2 x3 y3 : Int) : List Value := [.int .i64 x0, .int .i64 y0, .int .i64 px, .int .i64 py, .int .i64 x1, .int .i64 y1, .int .i64 x2, .int .i64 y2, .int .i64 x3, .int .i64 y3]
theorem cells_src {w : World} {b : Nat} {cur : Array Value} {t : TypeId} (h : Bx w b cur t) (o : Nat) (cs : List Value) (hc : ∀ j u, cs[j]? = some u → cur[o + j]? = some u) : ∀ j v, cs[j]? = some v → w.cell? ((⟨b, o, none⟩ : Addr).add j) = some v := by
  intro j v hj
  have ea : (⟨b, o, none⟩ : Addr).add j = ⟨b, o + j, none⟩ := by unfold Addr.add; split <;> simp_all
  rw [ea]; exact h.cell _ (hc j v hj)
set_option maxHeartbeats 4000000 in
set_option maxRecDepth 100000 in
theorem insert_shift (x0 y0 x1 y1 x2 y2 x3 y3 px py : Int) (g c vb vc : Nat) (R : List Value) (w : World) (hg : Bx w g (row4 x0 y0 x1 y1 x2 y2 x3 y3 ++ R).toArray 28) (hv : Bx w vb #[.int .i64 px, .int .i64 py] 28) (hne : vb ≠ g) (hR : R.length = (c - 4) * 2) (hc : 5 ≤ c) (hm : c ≤ maxLen) :
    Calls Tryd.prog 70 #[.slice (some ⟨g, 0, none⟩) 4 c, .int .i64 1, .slice (some ⟨vb, 0, none⟩) 1 vc] w fun e w' => e = .returned (.slice (some ⟨g, 0, none⟩) 5 c) ∧ Bx w' g (row5 x0 y0 px py x1 y1 x2 y2 x3 y3 ++ R.drop 2).toArray 28 ∧ ∀ B w0, B ≤ g → Below B w0 w → Below B w0 w' := by
  have mixed : Tryd.prog.follows .mixedOrders = true := by kernel_rfl
  have hsz : (Tryd.prog.info? 28).map (·.size) = some 2 := by kernel_rfl
  have hmx : c ≤ 9223372036854775807 := Nat.le_trans hm (by decide)
  have hov : ∀ lb cb, (callFunc 83 #[.slice (some ⟨vb, 0, none⟩) 1 vc, .slice (some ⟨g, 4, none⟩) lb cb]).run Tryd.prog w = .ok (.value (.bool false)) w := fun lb cb => by
    rw [run_callFunc_extern Tryd.func83 (by kernel_rfl) (by kernel_rfl) (by kernel_rfl) (e := Extern.SlicesOverlaps.overlaps #[35, 35] #[4]) (by kernel_rfl),
      Lib.run_overlaps_apart w 35 4 28 Tryd.underlying35 2 szPt ⟨vb, 0, none⟩ ⟨g, 4, none⟩ 1 vc lb cb hne 28 28 2 (8 + R.length)
        (by unfold World.shape?; rw [show w.heap[vb]? = _ from hv]; rfl) (by unfold World.shape?; rw [show w.heap[g]? = _ from hg]; simp [row4]; omega) (by omega) (hv.free 0) (hv.free 2)]
    rfl
  obtain ⟨r0, r1, R', rfl⟩ : ∃ r0 r1 R', R = r0 :: r1 :: R' := by
    match R, hR with
    | [], h => simp at h; omega
    | [_], h => simp at h; omega
    | a :: b :: r, _ => exact ⟨a, b, r, rfl⟩
  have hcp1 : ∀ ty dc sc, (Builtin.copy_ #[35, 35] ty #[.slice (some ⟨g, 4, none⟩) 3 dc, .slice (some ⟨g, 2, none⟩) 4 sc]).run Tryd.prog w.drew =
      .ok (goInt 3) (w.drew.setRow g ([.int .i64 x0, .int .i64 y0, .int .i64 x1, .int .i64 y1, .int .i64 x1, .int .i64 y1, .int .i64 x2, .int .i64 y2, .int .i64 x3, .int .i64 y3] ++ R' : List Value).toArray) := fun ty dc sc => by
    have h := run_copy2 (P := Tryd.prog) w.drew 35 35 ty 28 g 4 3 dc ⟨g, 2, none⟩ 4 sc 3 _ 28 [.int .i64 x1, .int .i64 y1, .int .i64 x2, .int .i64 y2, .int .i64 x3, .int .i64 y3] Tryd.underlying35 hsz hg rfl rfl
      (cells_src (w := w.drew) hg 2 _ (fun j u hj => by
        match j, hj with
        | 0, hj => simpa [row4] using hj
        | 1, hj => simpa [row4] using hj
        | 2, hj => simpa [row4] using hj
        | 3, hj => simpa [row4] using hj
        | 4, hj => simpa [row4] using hj
        | 5, hj => simpa [row4] using hj
        | j + 6, hj => simp at hj)) (by simp [row4]) (by simp [Value.oneCell'])
    rw [h]; congr 2
  have hg1 := setRow_heap w.drew g _ ([.int .i64 x0, .int .i64 y0, .int .i64 x1, .int .i64 y1, .int .i64 x1, .int .i64 y1, .int .i64 x2, .int .i64 y2, .int .i64 x3, .int .i64 y3] ++ R' : List Value).toArray _ _ hg
  have hv1 := (setRow_other w.drew g vb ([.int .i64 x0, .int .i64 y0, .int .i64 x1, .int .i64 y1, .int .i64 x1, .int .i64 y1, .int .i64 x2, .int .i64 y2, .int .i64 x3, .int .i64 y3] ++ R' : List Value).toArray hne).trans hv
  have hb1 : ∀ B w0, B ≤ g → Below B w0 w → Below B w0 (w.drew.setRow g ([.int .i64 x0, .int .i64 y0, .int .i64 x1, .int .i64 y1, .int .i64 x1, .int .i64 y1, .int .i64 x2, .int .i64 y2, .int .i64 x3, .int .i64 y3] ++ R' : List Value).toArray) := fun B w0 h k => below_setRow k.drew h _
  generalize w.drew.setRow g ([.int .i64 x0, .int .i64 y0, .int .i64 x1, .int .i64 y1, .int .i64 x1, .int .i64 y1, .int .i64 x2, .int .i64 y2, .int .i64 x3, .int .i64 y3] ++ R' : List Value).toArray = w1 at *
  have hcp2 : ∀ ty dc, (Builtin.copy_ #[35, 35] ty #[.slice (some ⟨g, 2, none⟩) 4 dc, .slice (some ⟨vb, 0, none⟩) 1 vc]).run Tryd.prog w1 =
      .ok (goInt 1) (w1.setRow g (row5 x0 y0 px py x1 y1 x2 y2 x3 y3 ++ R').toArray) := fun ty dc => by
    have h := run_copy2 (P := Tryd.prog) w1 35 35 ty 28 g 2 4 dc ⟨vb, 0, none⟩ 1 vc 1 _ 28 [.int .i64 px, .int .i64 py] Tryd.underlying35 hsz hg1 rfl rfl
      (cells_src (w := w1) hv1 0 _ (fun j u hj => by
        match j, hj with
        | 0, hj => simpa using hj
        | 1, hj => simpa using hj
        | j + 2, hj => simp at hj)) (by simp) (by simp [Value.oneCell'])
    rw [h]; congr 2
  have hg2 := setRow_heap w1 g _ (row5 x0 y0 px py x1 y1 x2 y2 x3 y3 ++ R').toArray _ _ hg1
  have hb2 : ∀ B w0, B ≤ g → Below B w0 w → Below B w0 (w1.setRow g (row5 x0 y0 px py x1 y1 x2 y2 x3 y3 ++ R').toArray) := fun B w0 h k => below_setRow (hb1 B w0 h k) h _
  generalize w1.setRow g (row5 x0 y0 px py x1 y1 x2 y2 x3 y3 ++ R').toArray = w2 at *
  have HG2 := Lib.hid hg2; have HB2 := Lib.hid hb2
  clear hg hv hg1 hv1 hg2 hb1 hb2
  have k1 : ¬ ((c : Int) < 5) := by omega
  have k2 : ¬ (c < 5) := by omega
  have k3 : (5 : Int) ≤ c := by omega
  have k4 : ¬ (c = 2) := by omega
  have k5 : ¬ (c = 1) := by omega
  have k6 : IntKind.i64.wrap 2 = 2 := (by decide)
  have k7 : IntKind.i64.wrap 5 = 5 := (by decide)
  go_enter Tryd.func70, Tryd.ntmps70
  go_wp2_with (simp only [hov])
  go_region_law_o (refine step_copy_runI rfl _ _ 35 35 rfl _ _ (by simp [Act.eval, Act.put]) (by simp [Act.eval, Act.put]) (hcp1 _ _ _) ?_)
  go_wp2_with (at_builtin; refine wpList_copy_runI _ rfl _ _ 35 35 rfl _ _ rfl rfl (hcp2 _ _) ?_)
  go_ret
  exact ⟨rfl, HG2.out, HB2.out⟩
theorem list8 {α : Type} {l : List α} (h : 8 ≤ l.length) : ∃ a b c d e f g i r, l = a :: b :: c :: d :: e :: f :: g :: i :: r := by
  match l, h with
  | a :: b :: c :: d :: e :: f :: g :: i :: r, _ => exact ⟨a, b, c, d, e, f, g, i, r, rfl⟩
set_option maxHeartbeats 4000000 in
set_option maxRecDepth 100000 in
theorem insert_grow (x0 y0 x1 y1 x2 y2 x3 y3 px py : Int) (g vb vc : Nat) (w : World) (hg : Bx w g (row4 x0 y0 x1 y1 x2 y2 x3 y3).toArray 28) (hv : Bx w vb #[.int .i64 px, .int .i64 py] 28) :
    Calls Tryd.prog 70 #[.slice (some ⟨g, 0, none⟩) 4 4, .int .i64 1, .slice (some ⟨vb, 0, none⟩) 1 vc] w fun e w' => ∃ c' R, e = .returned (.slice (some ⟨w.heap.size, 0, none⟩) 5 c') ∧ 5 ≤ c' ∧ c' ≤ maxLen ∧ Bx w' w.heap.size (row5 x0 y0 px py x1 y1 x2 y2 x3 y3 ++ R).toArray 28 ∧ Below w.heap.size w w' := by
  have mixed : Tryd.prog.follows .mixedOrders = true := by kernel_rfl
  have hsz : (Tryd.prog.info? 28).map (·.size) = some 2 := by kernel_rfl
  obtain ⟨i0, hi0, hz0, hzs, hzb⟩ := info_parts infoPt
  have hgw := hg.lt; have hvw := hv.lt
  have hold : (Builtin.firstCells i0.size 1 (.slice (some ⟨g, 0, none⟩) 1 4)).run Tryd.prog w.drew = .ok ([.int .i64 x0, .int .i64 y0] : List Value).toArray w.drew := by
    rw [hzs]
    exact run_firstCells_some w.drew 2 1 ⟨g, 0, none⟩ 1 4 [.int .i64 x0, .int .i64 y0] rfl (cells_src (w := w.drew) hg 0 _ (fun j u hj => by
      match j, hj with
      | 0, hj => simpa [row4] using hj
      | 1, hj => simpa [row4] using hj
      | j + 2, hj => simp at hj))
  obtain ⟨G, hG⟩ : ∃ G, G = grownCap w 5 4 28 := ⟨_, rfl⟩
  obtain ⟨ZL, hZL⟩ : ∃ ZL : List Value, ZL = (Builtin.zeroCells (Value.agg #[.int .i64 0, .int .i64 0]).cells 4 ++ Builtin.zeroCells (Value.agg #[.int .i64 0, .int .i64 0]).cells (G - 5)).toList := ⟨_, rfl⟩
  have hZn : 8 ≤ ZL.length := by rw [hZL]; simp [Builtin.zeroCells, Value.cells]
  have hGn : 5 ≤ G := by rw [hG]; exact grownCap_ge w _ _ _
  have hGm : G ≤ maxLen := by rw [hG]; exact grownCap_le_maxLen w 5 4 _ (by decide)
  obtain ⟨W1, hW1⟩ : ∃ W1, W1 = w.drew.alloc (.cells ([.int .i64 x0, .int .i64 y0] ++ ZL : List Value).toArray 28) := ⟨_, rfl⟩
  have hrz : ∀ ty, (Builtin.append_ #[35, 3] ty #[.slice (some ⟨g, 0, none⟩) 1 4, .int .i64 4]).run Tryd.prog w = .ok (.slice (some ⟨w.heap.size, 0, none⟩) 5 G) W1 := fun ty => by
    have h := Lib.run_append_grow_zeros (P := Tryd.prog) w 35 3 ty 28 i0 _ .i64 .i64 Tryd.underlying35 Tryd.underlying3 hi0 hz0 (some ⟨g, 0, none⟩) 1 4 [.int .i64 x0, .int .i64 y0] hold 4 (by omega) (by omega) (by omega) (by omega) (by rw [hzb]; omega) (by rw [hzb]; exact growslice_fits (by omega) (by omega))
    rw [show 1 + 4 = 5 from rfl, ← hG] at h
    rw [show ((4 : Nat) : Int) = 4 from rfl] at h
    rw [h, hW1, hZL]; congr 3; simp
  clear hold hZL
  obtain ⟨z0, z1, z2, z3, z4, z5, z6, z7, Z, rfl⟩ := list8 hZn
  have hN1 : Bx W1 w.heap.size ([.int .i64 x0, .int .i64 y0, z0, z1, z2, z3, z4, z5, z6, z7] ++ Z : List Value).toArray 28 := by rw [hW1]; exact Bx.new w.drew _ _
  have hv1 : Bx W1 vb #[.int .i64 px, .int .i64 py] 28 := by rw [hW1]; exact Bx.alloc (w := w.drew) hv _
  have hg1 : Bx W1 g (row4 x0 y0 x1 y1 x2 y2 x3 y3).toArray 28 := by rw [hW1]; exact Bx.alloc (w := w.drew) hg _
  have hb1 : Below w.heap.size w W1 := by rw [hW1]; exact ((Below.refl _ w).drew).alloc (Nat.le_refl _) _
  have hcpA : ∀ (W : World), W.heap = W1.heap → ∀ ty dc, (Builtin.copy_ #[35, 35] ty #[.slice (some ⟨w.heap.size, 2, none⟩) 4 dc, .slice (some ⟨vb, 0, none⟩) 1 vc]).run Tryd.prog W =
      .ok (goInt 1) (W.setRow w.heap.size ([.int .i64 x0, .int .i64 y0, .int .i64 px, .int .i64 py, z2, z3, z4, z5, z6, z7] ++ Z : List Value).toArray) := fun W hW ty dc => by
    have h := run_copy2 (P := Tryd.prog) W 35 35 ty 28 w.heap.size 2 4 dc ⟨vb, 0, none⟩ 1 vc 1 _ 28 [.int .i64 px, .int .i64 py] Tryd.underlying35 hsz (by rw [hW]; exact hN1) rfl rfl
      (cells_src (w := W) (show W.heap[vb]? = _ by rw [hW]; exact hv1) 0 _ (fun j u hj => by
        match j, hj with
        | 0, hj => simpa using hj
        | 1, hj => simpa using hj
        | j + 2, hj => simp at hj)) (by simp) (by simp [Value.oneCell'])
    rw [h]; congr 2
  have hcpB : ∀ (W : World), Bx W w.heap.size ([.int .i64 x0, .int .i64 y0, .int .i64 px, .int .i64 py, z2, z3, z4, z5, z6, z7] ++ Z : List Value).toArray 28 → Bx W g (row4 x0 y0 x1 y1 x2 y2 x3 y3).toArray 28 → ∀ ty dc sc, (Builtin.copy_ #[35, 35] ty #[.slice (some ⟨w.heap.size, 4, none⟩) 3 dc, .slice (some ⟨g, 2, none⟩) 3 sc]).run Tryd.prog W =
      .ok (goInt 3) (W.setRow w.heap.size (row5 x0 y0 px py x1 y1 x2 y2 x3 y3 ++ Z).toArray) := fun W hWN hWg ty dc sc => by
    have h := run_copy2 (P := Tryd.prog) W 35 35 ty 28 w.heap.size 4 3 dc ⟨g, 2, none⟩ 3 sc 3 _ 28 [.int .i64 x1, .int .i64 y1, .int .i64 x2, .int .i64 y2, .int .i64 x3, .int .i64 y3] Tryd.underlying35 hsz hWN rfl rfl
      (cells_src (w := W) hWg 2 _ (fun j u hj => by
        match j, hj with
        | 0, hj => simpa [row4] using hj
        | 1, hj => simpa [row4] using hj
        | 2, hj => simpa [row4] using hj
        | 3, hj => simpa [row4] using hj
        | 4, hj => simpa [row4] using hj
        | 5, hj => simpa [row4] using hj
        | j + 6, hj => simp at hj)) (by simp) (by simp [Value.oneCell'])
    rw [h]; congr 2
  have hne : g ≠ w.heap.size := by omega
  have HN1 := Lib.hid hN1; have HG1 := Lib.hid hg1; have HB1 := Lib.hid hb1; have HW1 := Lib.hid hW1
  clear hN1 hg1 hb1 hv1 hg hv hgw hvw hW1 hG
  have k4 : ¬ (G = 2) := by omega
  have k5 : ¬ (G = 1) := by omega
  have k6 : IntKind.i64.wrap 2 = 2 := (by decide)
  have k7 : IntKind.i64.wrap 5 = 5 := (by decide)
  have k8 : IntKind.i64.wrap 4 = 4 := (by decide)
  go_enter Tryd.func70, Tryd.ntmps70
  go_wp2_with (first
    | (at_builtin; refine Lib.wpList_append_run _ rfl _ _ _ _ rfl _ _ rfl rfl _ _ (hrz _) ?_)
    | (at_builtin; refine wpList_copy_runI _ rfl _ _ 35 35 rfl _ _ rfl rfl (hcpA _ rfl _ _) ?_))
  have hRA : Bx (W1.setRow w.heap.size ([.int .i64 x0, .int .i64 y0, .int .i64 px, .int .i64 py, z2, z3, z4, z5, z6, z7] ++ Z : List Value).toArray).drew w.heap.size ([.int .i64 x0, .int .i64 y0, .int .i64 px, .int .i64 py, z2, z3, z4, z5, z6, z7] ++ Z : List Value).toArray 28 := setRow_heap W1 _ _ _ _ _ HN1.out
  have hRG : Bx (W1.setRow w.heap.size ([.int .i64 x0, .int .i64 y0, .int .i64 px, .int .i64 py, z2, z3, z4, z5, z6, z7] ++ Z : List Value).toArray).drew g (row4 x0 y0 x1 y1 x2 y2 x3 y3).toArray 28 := (setRow_other W1 _ _ _ hne).trans HG1.out
  have hcpC := hcpB _ hRA hRG
  have HRA := Lib.hid hRA
  have hBA : Below w.heap.size w (W1.setRow w.heap.size ([.int .i64 x0, .int .i64 y0, .int .i64 px, .int .i64 py, z2, z3, z4, z5, z6, z7] ++ Z : List Value).toArray).drew := (below_setRow HB1.out (Nat.le_refl _) _).drew
  have HBA := Lib.hid hBA
  clear hRA hRG hBA hcpA hcpB
  go_region_law_o (refine step_copy_runI rfl _ _ 35 35 rfl (.slice (some ⟨w.heap.size, 4, none⟩) 3 (G - 2)) (.slice (some ⟨g, 2, none⟩) 3 3) (by simp [Act.eval, Act.put]) (by simp [Act.eval, Act.put]) (hcpC _ _ _) ?_)
  go_wp2
  go_ret
  exact ⟨G, Z, rfl, hGn, hGm, setRow_heap _ _ _ _ _ _ HRA.out, below_setRow HBA.out (Nat.le_refl _) _⟩
/-- whichever road: five points; what lay below r is as it was -/
theorem insert_any (x0 y0 x1 y1 x2 y2 x3 y3 px py : Int) (F G : Nat → Int) (hFG : ptsL F G 5 = row5 x0 y0 px py x1 y1 x2 y2 x3 y3) (hi : ∀ i, i < 5 → IsI (F i) ∧ IsI (G i)) (r : World) (g c vb vc : Nat) (cur : Array Value) (w : World) (hb : Below r.heap.size r w) (hgr : r.heap.size ≤ g) (hg : Bx w g cur 28) (hcs : cur.size = c * 2)
    (htk : cur.toList.take 8 = row4 x0 y0 x1 y1 x2 y2 x3 y3) (hc4 : 4 ≤ c) (hcm : c ≤ maxLen) (hv : Bx w vb #[.int .i64 px, .int .i64 py] 28) (hne : vb ≠ g) :
    Calls Tryd.prog 70 #[.slice (some ⟨g, 0, none⟩) 4 c, .int .i64 1, .slice (some ⟨vb, 0, none⟩) 1 vc] w fun e w' => (∃ A' c', e = .returned (.slice A' 5 c') ∧ Pts w' A' 5 c' F G) ∧ Below r.heap.size r w' := by
  have e : cur = (row4 x0 y0 x1 y1 x2 y2 x3 y3 ++ cur.toList.drop 8).toArray := by
    rw [← htk, List.take_append_drop]
  have hR : (cur.toList.drop 8).length = (c - 4) * 2 := by rw [List.length_drop, Array.length_toList, hcs]; omega
  rw [e] at hg
  generalize cur.toList.drop 8 = R at *
  by_cases h5 : 5 ≤ c
  · refine (insert_shift x0 y0 x1 y1 x2 y2 x3 y3 px py g c vb vc R w hg hv hne hR h5 hcm).mono ?_
    rintro e' w' ⟨rfl, h1, h2⟩
    exact ⟨⟨_, _, rfl, bx_pts h1 (by rw [hFG]; simp [row5]) h5 hcm hi⟩, h2 _ _ hgr hb⟩
  · obtain rfl : c = 4 := by omega
    have hR0 : R = [] := by cases R with
      | nil => rfl
      | cons a l => simp at hR
    rw [hR0, List.append_nil] at hg
    refine (insert_grow x0 y0 x1 y1 x2 y2 x3 y3 px py g vb vc w hg hv).mono ?_
    rintro e' w' ⟨c', R', rfl, h1, h2, h3, h4⟩
    exact ⟨⟨_, _, rfl, bx_pts h3 (by rw [hFG]; simp [row5]) h1 h2 hi⟩, hb.trans (h4.mono hb.size)⟩
set_option maxHeartbeats 4000000 in
theorem clone_nil (n c : Nat) (w : World) : Calls Tryd.prog 46 #[.slice none n c] w fun e w' => e = .returned (.slice none 0 0) ∧ Below w.heap.size w w' := by
  have q22 : ∀ (w : World) (a : Option Addr) (n c n' c' : Nat), (binOp .eql 35 (.slice a n c) (.slice none n' c')).run Tryd.prog w = .ok (.bool a.isNone) w := fun w a n c n' c' => Lib.run_eql_slice_nil w _ _ a n c n' c' Tryd.underlying35
  go_enter Tryd.func46, Tryd.ntmps46
  go_wp2
  go_ret
  exact ⟨rfl, Below.refl _ _⟩
/-- what lies in a row's cells -/
def RowP (cur : Array Value) (n : Nat) (f g : Nat → Int) : Prop := ∀ i, i < n → cur[i * 2]? = some (.int .i64 (f i)) ∧ cur[i * 2 + 1]? = some (.int .i64 (g i))
theorem rowP_of {cur : Array Value} {n : Nat} {f g : Nat → Int} (h : cur.toList.take (n * 2) = ptsL f g n) : RowP cur n f g := fun i hi => by
  obtain ⟨g1, g2⟩ := ptsL_get f g n i hi
  rw [← h, List.getElem?_take] at g1 g2
  rw [if_pos (by omega)] at g1 g2
  exact ⟨by simpa using g1, by simpa using g2⟩
theorem bx_rowP {w : World} {b n c : Nat} {f g : Nat → Int} {cur : Array Value} {t : TypeId} (h : Bx w b cur t) (hc : RowP cur n f g) (hn : n ≤ c) (hm : c ≤ maxLen) (hi : ∀ i, i < n → IsI (f i) ∧ IsI (g i)) : Pts w (some ⟨b, 0, none⟩) n c f g :=
  ⟨hn, hm, hi, fun _ => ⟨b, 0, rfl, h.lt, fun i hi' => by rw [Nat.zero_add]; exact ⟨h.cell _ (hc i hi').1, h.cell _ (hc i hi').2⟩⟩⟩
theorem rowP_set {cur : Array Value} {n k : Nat} {f g : Nat → Int} (h : RowP cur n f g) (hk : k < n) (x y : Int) : RowP ((cur.setIfInBounds (k * 2) (.int .i64 x)).setIfInBounds (k * 2 + 1) (.int .i64 y)) n (fun i => if i = k then x else f i) (fun i => if i = k then y else g i) := fun i hi => by
  have h1 := (Array.getElem?_eq_some_iff.1 (h k hk).1).1
  have h2 := (Array.getElem?_eq_some_iff.1 (h k hk).2).1
  obtain ⟨g1, g2⟩ := h i hi
  by_cases e : i = k
  · subst e
    constructor
    · rw [Array.getElem?_setIfInBounds_ne (by omega)]; simp [h1]
    · simp [h2]
  · constructor
    · rw [Array.getElem?_setIfInBounds_ne (by omega), Array.getElem?_setIfInBounds_ne (by omega), g1]; simp [e]
    · rw [Array.getElem?_setIfInBounds_ne (by omega), Array.getElem?_setIfInBounds_ne (by omega), g2]; simp [e]
end Go.Proofs.YtoikcgmdlccdbaaDoor
