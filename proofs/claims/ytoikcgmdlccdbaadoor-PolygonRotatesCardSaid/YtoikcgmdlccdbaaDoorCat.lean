/- slices.Concat of two slices of points, and slices.Reverse of a row of points. -/
import Derived.Test.YtoikcgmdlccdbaaDoorIns
import Derived.Test.YtoikcgmdlccdbaaDoorRot
import Derived.Shelf.Spec.SlicesGrow
import Derived.Shelf.SlicesQ.Reverse
import Derived.Ground.Names7Prog
import Derived.Ground.SlgnProg
import Derived.Test.YtoikcgmdlccdbaaDoorLay
namespace Go.Proofs.YtoikcgmdlccdbaaDoor
set_option linter.unusedVariables false
set_option linter.unusedSimpArgs false
open Go.RowKit Wd Go.Shelf Go.Lib Go.Sort


def encPt (x : Int × Int) : List Value := [.int .i64 x.1, .int .i64 x.2]
theorem isAggPt : ∀ w, (isAgg 28).run Tryd.prog w = .ok true w := Tryd.isAgg28
theorem putRow_below {w : World} {g m off : Nat} {F : Array Value} : Below g w (Sort.putRow id (Sort.ahead w m) g off F) :=
  ⟨rfl, rfl, rfl, by simp, fun k hk => by
    unfold Sort.putRow Sort.mapBlock
    show (w.heap.modify g _)[k]? = _
    rw [Array.getElem?_modify]; split
    · omega
    · rfl⟩
/-- slices.Reverse of a row of points -/
theorem reverse_pts (g n c : Nat) (f h : Nat → Int) (cur : Array Value) (w : World) (hb : Bx w g cur 28) (hr : RowP cur n f h) (hi : ∀ i, i < n → IsI (f i) ∧ IsI (h i)) (hc : n ≤ c) (hm : c ≤ maxLen) :
    Calls Tryd.prog 52 #[.slice (some ⟨g, 0, none⟩) n c] w fun e w' => e = .returned (.tuple #[]) ∧ Pts w' (some ⟨g, 0, none⟩) n c (fun j => f (rv n j)) (fun j => h (rv n j)) ∧ Below g w w' := by
  have hd : ((Array.range n).map fun i => (f i, h i)).size = n := by simp
  have hg : ∀ i, i < n → ((Array.range n).map fun i => (f i, h i))[i]! = (f i, h i) := fun i hi => by
    rw [getElem!_pos _ i (by rw [hd]; exact hi)]; simp
  have hH : HoldsK encPt 2 w g 0 ((Array.range n).map fun i => (f i, h i)) := by
    intro j hj
    rw [size_flatK, hd] at hj
    refine ⟨?_, hb.free _⟩
    rw [get_flatK _ _ _ _ (by rw [hd]; exact hj), hg _ (by omega), Nat.zero_add]
    obtain ⟨h1, h2⟩ := hr (j / 2) (by omega)
    rcases (by omega : j = j / 2 * 2 ∨ j = j / 2 * 2 + 1) with e | e
    · rw [show j % 2 = 0 by omega]; rw [← e] at h1; exact hb.cell j h1
    · rw [show j % 2 = 1 by omega]; rw [← e] at h2; exact hb.cell j h2
  have := AnyQ.slices_Reverse revPt 2 isAggPt szPt encPt (fun _ => rfl) (fun x v hv => by simp [encPt] at hv; rcases hv with rfl | rfl <;> rfl) g 0 c _ w hH (by rw [hd]; unfold maxLen at hm; omega)
  rw [hd] at this
  refine this.mono ?_
  rintro e w' ⟨rfl, m, rfl⟩
  refine ⟨rfl, ⟨hc, hm, fun i hi' => hi _ (by unfold rv; omega), fun hn => ⟨g, 0, rfl, ?_, fun i hi' => ?_⟩⟩, putRow_below⟩
  · have := hb.lt; simp [putRowK]; omega
  · have hR := holdsK_putRowK encPt 2 (Sort.ahead w m) g 0 _ (((Array.range n).map fun i => (f i, h i)).reverse) (holdsK_ahead encPt 2 w m g 0 _ hH) (by simp)
    have hs : i < (((Array.range n).map fun i => (f i, h i)).reverse).size := by simp; exact hi'
    have hv : (((Array.range n).map fun i => (f i, h i)).reverse)[i]! = (f (rv n i), h (rv n i)) := by
      rw [getElem!_pos _ i hs]; simp [rv]
    have e0 := HoldsK.cells hR (fun _ => rfl) hs 0 (.int .i64 (f (rv n i))) (by rw [hv]; rfl)
    have e1 := HoldsK.cells hR (fun _ => rfl) hs 1 (.int .i64 (h (rv n i))) (by rw [hv]; rfl)
    rw [Addr.add_lit] at e0 e1
    exact ⟨e0, e1⟩
set_option maxHeartbeats 8000000 in
set_option maxRecDepth 100000 in
/-- slices.Concat of two slices of points, neither of them nil, not both empty -/
theorem concat2 (ad1 ad2 : Addr) (n1 c1 n2 c2 b : Nat) (f1 g1 f2 g2 : Nat → Int) (w : World) (hbx : Bx w b #[.slice (some ad1) n1 c1, .slice (some ad2) n2 c2] 35) (p1 : Pts w (some ad1) n1 c1 f1 g1) (p2 : Pts w (some ad2) n2 c2 f2 g2) (h0 : 0 < n1 + n2) (hn : n1 + n2 ≤ 1000) :
    Calls Tryd.prog 51 #[.slice (some ⟨b, 0, none⟩) 2 2] w fun e w' => (∃ g' c' cur, e = .returned (.slice (some ⟨g', 0, none⟩) (n1 + n2) c') ∧ w.heap.size ≤ g' ∧ Bx w' g' cur 28 ∧ n1 + n2 ≤ c' ∧ c' ≤ maxLen ∧ cur.size = c' * 2 ∧ cur.toList.take ((n1 + n2) * 2) = ptsL f1 g1 n1 ++ ptsL f2 g2 n2) ∧ Below w.heap.size w w' := by
  obtain ⟨i0, hi0, hz0, hz1, hz2⟩ := info_parts infoPt
  have P1 := Lib.hid p1; have P2 := Lib.hid p2; have HX := Lib.hid hbx
  have c0_ := hbx.cell 0 (v := .slice (some ad1) n1 c1) rfl
  have c1_ := hbx.cell 1 (v := .slice (some ad2) n2 c2) rfl
  have HN := Lib.hid (show ((n1 : Int) + (n2 : Int)) = ((n1 + n2 : Nat) : Int) from by simp)
  obtain ⟨w1_, w2_⟩ := wrapN (m := n1) (by omega)
  have w3_ : wrap64 ((n1 : Int) + (n2 : Int)) = (n1 : Int) + (n2 : Int) := by rw [HN.out]; exact (wrapN (by omega)).1
  have w4_ : IntKind.i64.wrap ((n1 : Int) + (n2 : Int)) = (n1 : Int) + (n2 : Int) := by rw [HN.out]; exact (wrapN (by omega)).2
  have k1_ : ¬ ((n1 : Int) < 0) := by omega
  have k2_ : ¬ ((n1 : Int) + (n2 : Int) < 0) := by omega
  have HI := Lib.hid (show 0 < i0.size from by rw [hz1]; decide)
  have HBY := Lib.hid (show (0 + (n1 + n2)) * i0.bytes ≤ 140737488355328 from by rw [hz2]; omega)
  clear p1 p2 hbx
  go_enter Tryd.func51, Tryd.ntmps51
  go_wp2_with fail
  refine wp_loop_rounds 3 ?_
  rw [rounds_succ]
  go_wp2_with fail
  rw [rounds_succ]
  go_wp2_with fail
  rw [rounds_succ]
  go_wp2_with fail
  rw [HN.out]
  refine (Any8.slices_Grow_grow growPt i0 _ hi0 hz0 HI.out none 0 0 (n1 + n2) [] w (Nat.le_refl _) (by omega) HBY.out (by omega) (by simp) (fun _ => rfl) (fun a e => by cases e)).mono ?_
  rintro e w1 ⟨rfl, hw1⟩
  have hcm : grownCap w (0 + (n1 + n2)) 0 (growPt_ren.t 25) ≤ maxLen := grownCap_le_maxLen _ _ _ _ (by unfold maxLen; omega)
  have hcg : 0 + (n1 + n2) ≤ grownCap w (0 + (n1 + n2)) 0 (growPt_ren.t 25) := grownCap_ge _ _ _ _
  generalize grownCap w (0 + (n1 + n2)) 0 (growPt_ren.t 25) = cp at *
  have hown1 : w1.ownsRow w.heap.size 28 2 (.slice (some ⟨w.heap.size, 0, none⟩) 0 cp) 0 [] := by
    rw [hw1]
    exact World.ownsRow_made w.drew _ cp (Nat.le_refl _) hcm (by
      simp only [Array.size_append, size_zeroCells]
      rw [show (Value.agg #[Value.int IntKind.i64 0, Value.int IntKind.i64 0]).cells.size = 2 from rfl]
      simp; omega)
  have hB1 : Below w.heap.size w w1 := by rw [hw1]; exact (Below.refl _ w).drew.alloc (Nat.le_refl _) _
  have O1 := Lib.hid hown1; have B1 := Lib.hid hB1
  have Q1 := Lib.hid (P1.out.below hB1 (Nat.le_refl _)); have Q2 := Lib.hid (P2.out.below hB1 (Nat.le_refl _)); have HX1 := Lib.hid (HX.out.below hB1 (Nat.le_refl _))
  have HCM := Lib.hid hcm
  clear hw1 hown1 hB1 hcm hcg c0_ c1_
  have c0_ := HX1.out.cell 0 (v := .slice (some ad1) n1 c1) rfl
  have c1_ := HX1.out.cell 1 (v := .slice (some ad2) n2 c2) rfl
  go_wp2_with fail
  refine wp_loop_rounds 3 ?_
  rw [rounds_succ]
  go_wp2_with (at_builtin; refine wpList_append_own _ rfl _ _ 35 rfl w.heap.size 28 i0 _ 2 16 Tryd.underlying35 hi0 hz0 hz1 hz2 rfl (by decide) _ _ _ rfl O1.out ad1 n1 c1 (ptsL f1 g1 n1) rfl (ptsL_len f1 g1 n1) (pts_src' Q1.out) (ptsL_one f1 g1 n1) (by unfold maxLen; omega) (by omega) B1.out.size ?_; intro v2 w2 hown hgrow hnil; clear hnil; have O2 := Lib.hid hown; have B2 := Lib.hid (B1.out.grown hgrow B1.out.size (fun j e => by cases e; exact Nat.le_refl _)); have G2 := Lib.hid hgrow; clear hown hgrow)
  clear c0_ c1_ O1 Q1 Q2 HX1 G2
  have R2 := Lib.hid (P2.out.below B2.out (Nat.le_refl _))
  have c1_ := (HX.out.below B2.out (Nat.le_refl _)).cell 1 (v := .slice (some ad2) n2 c2) rfl
  rw [rounds_succ]
  go_wp2_with (at_builtin; refine wpList_append_own _ rfl _ _ 35 rfl w.heap.size 28 i0 _ 2 16 Tryd.underlying35 hi0 hz0 hz1 hz2 rfl (by decide) _ _ _ rfl O2.out ad2 n2 c2 (ptsL f2 g2 n2) rfl (ptsL_len f2 g2 n2) (pts_src' R2.out) (ptsL_one f2 g2 n2) (by unfold maxLen; omega) (by omega) B2.out.size ?_; intro v3 w3 hown hgrow hnil; clear hnil; have O3 := Lib.hid hown; have B3 := Lib.hid (B2.out.grown hgrow B2.out.size (fun j e => (O2.out.lt j e).1)); clear hown hgrow)
  rw [rounds_succ]
  go_wp2_with fail
  go_ret
  refine ⟨?_, B3.out⟩
  rcases O3.out.2 with ⟨h1, h2⟩ | ⟨g', cap, cur, h1, h2, h3, h4, h5, h6, h7⟩
  · omega
  · refine ⟨g', cap, cur, ?_, h2, h3, by omega, h5, h6, by simpa using h7⟩
    rw [show (0 + n1 + n2) = n1 + n2 by omega] at h1
    show Ending.returned v3 = _
    rw [h1]
end Go.Proofs.YtoikcgmdlccdbaaDoor
