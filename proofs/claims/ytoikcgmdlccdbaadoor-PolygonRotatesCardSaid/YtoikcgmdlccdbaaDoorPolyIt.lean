/- The iterator over a polygon's edges. -/
import Derived.Test.YtoikcgmdlccdbaaDoorPoly
import Derived.Test.YtoikcgmdlccdbaaDoorPts
import Derived.Test.YtoikcgmdlccdbaaDoorRegI
import Derived.RangeFuncNested
import Derived.RangeFuncBound
import Derived.RangeFuncCalls
import Derived.RangeFuncLeaves
import Derived.Shelf.Abstract
import Derived.Shelf.RegionOpen
import Derived.WalkKit
import Derived.OwnWalkIn
import Derived.TacticsInMore
import Derived.LoopNIn
import Derived.LoopIn
namespace Go.Proofs.YtoikcgmdlccdbaaDoor
set_option linter.unusedVariables false
set_option linter.unusedSimpArgs false
open Go.RowKit Wd Go.Shelf
attribute [local go_sem] Oper.semAt_some

/-- a point in memory -/
structure Pt1 (w : World) (b o : Nat) (x y : Int) : Prop where
  lt : b < w.heap.size
  x : w.cell? ⟨b, o, none⟩ = some (.int .i64 x)
  y : w.cell? ⟨b, o + 1, none⟩ = some (.int .i64 y)
theorem Pt1.below {w w' : World} {B b o : Nat} {x y : Int} (h : Pt1 w b o x y) (hb : Below B w w') (hB : w.heap.size ≤ B) : Pt1 w' b o x y := by
  have hlt := h.lt
  exact ⟨Nat.lt_of_lt_of_le h.lt hb.size, (hb.cell (p := ⟨b, o, none⟩) (by show b < B; omega)).trans h.x, (hb.cell (p := ⟨b, o + 1, none⟩) (by show b < B; omega)).trans h.y⟩
/-- the edge from vertex i -/
def edgeV (f g : Nat → Int) (n i : Nat) : Value := .agg #[.int .i64 (i : Int), .int .i64 (((i + 1) % n : Nat) : Int), .int .i64 (f i), .int .i64 (g i), .int .i64 (f ((i + 1) % n)), .int .i64 (g ((i + 1) % n))]
/-- the first k vertices' numbers -/
def fup (n k : Nat) : List (Fin n) := (List.range k).filterMap fun i => if h : i < n then some ⟨i, h⟩ else none
theorem fup_succ {n k : Nat} (h : k < n) : fup n (k + 1) = fup n k ++ [⟨k, h⟩] := by
  unfold fup; rw [List.range_succ, List.filterMap_append]; simp [h]
theorem fup_len {n : Nat} : ∀ {k}, k ≤ n → (fup n k).length = k
  | 0, _ => rfl
  | k + 1, h => by rw [fup_succ (by omega), List.length_append, fup_len (by omega)]; rfl
/-- what a round keeps: all below B, and the iterator's own variable -/
def KpE (B Bv : Nat) (W W' : World) : Prop := Below B W W' ∧ W'.heap[Bv]? = W.heap[Bv]?
theorem KpE.trans {B Bv : Nat} {X Y Z : World} (h : KpE B Bv X Y) (k : KpE B Bv Y Z) : KpE B Bv X Z := ⟨h.1.trans k.1, k.2.trans h.2⟩
theorem KpE.rf (B Bv : Nat) (W : World) : KpE B Bv W W := ⟨Below.refl _ _, rfl⟩
theorem KpE.dr {B Bv : Nat} {W W' : World} (h : KpE B Bv W W') : KpE B Bv W W'.drew := ⟨h.1.drew, h.2⟩
theorem tmod_nat (a b : Nat) : ((a : Int) + 1).tmod (b : Int) = (((a + 1) % b : Nat) : Int) := by
  rw [Int.tmod_eq_emod_of_nonneg (by omega)]; simp
set_option maxRecDepth 100000 in
set_option maxHeartbeats 4000000 in
theorem edges1_in (m l Bv : Nat) (hm : 1 ≤ m) (r : World) (A : Option Addr) (n c : Nat) (f g : Nat → Int) (hp : Pts r A n c f g) (hin : inP n) (J Jx : List (Fin n) → World → Prop) (hJd : ∀ s W, J s W → J s W.drew)
    (hY : ∀ pre (x : Fin n) W, J pre W → pre.length < n → YieldAt Fence.wide (m - 1) Tryd.prog l #[edgeV f g n x] W fun e W' => (e = .returned (.bool true) ∧ J (pre ++ [x]) W' ∧ KpE r.heap.size Bv W W') ∨ (e = .returned (.bool false) ∧ Jx (pre ++ [x]) W'))
    (W : World) (hb : Below r.heap.size r W) (hB : Bx W Bv #[.slice A n c] 35) (h0 : J [] W) :
    CallsIn Fence.wide m Tryd.prog 85 #[.func (.yield l) #[] #[], .pointer (some ⟨Bv, 0, none⟩)] W fun e W' => (∃ v, e = .returned v) ∧ ((∃ ys, ys = fup n n ∧ J ys W') ∨ (∃ pre, (∃ k, k ≤ n ∧ pre = fup n k) ∧ Jx pre W')) := by
  have hn3 := hin.1; have hn64 := hin.2
  obtain ⟨b, off, rfl, hlt, hc⟩ := hp.at_ (by omega)
  have HB := Lib.hid hb; have HBX := Lib.hid hB; have HC := Lib.hid hc; have HLT := Lib.hid hlt
  clear hb hc hlt
  have q1 : ¬ ((n : Int) < 3) := by omega
  have q2 : ¬ ((64 : Int) < n) := by omega
  have bc := hB.cell 0 (v := .slice (some ⟨b, off, none⟩) n c) rfl
  clear hB
  refine callsIn_of_wp Tryd.func85 rfl trivial ?_ rfl
  simp only [Tryd.ntmps85, List.size_toArray, List.length_cons, List.length_nil, Nat.reduceAdd, Nat.reduceSub, Array.replicate_succ, Array.replicate_zero, List.push_toArray, List.append_toArray, List.nil_append, List.cons_append]
  gi_wp2
  clear bc
  gi_loopw [16] (fun i wr => ∃ k : Nat, k ≤ n ∧ i = .int .i64 k ∧ J (fup n k) wr ∧ KpE r.heap.size Bv W wr) (fun i _ => n - (intOf i).toNat)
  case atStart => exact ⟨0, Nat.zero_le _, rfl, h0, KpE.rf _ _ _⟩
  case round =>
    obtain ⟨k, hk, rfl, hJs, hnx⟩ := hrel
    by_cases hlt : k < n
    · have hk2 : (k + 1) % n < n := Nat.mod_lt _ (by omega)
      have hmod := tmod_nat k n
      have hw1 : wrap64 ((k : Int) + 1) = (k : Int) + 1 := by rw [← IntWalk.i64_left, IntKind.wrap_i64]; omega
      have hw2 : IntKind.i64.wrap ((k : Int) + 1) = (k : Int) + 1 := by rw [IntKind.wrap_i64]; omega
      have hw3 : wrap64 (((k + 1) % n : Nat) : Int) = (((k + 1) % n : Nat) : Int) := by rw [← IntWalk.i64_left, IntKind.wrap_i64]; omega
      have hw4 : IntKind.i64.wrap (((k + 1) % n : Nat) : Int) = (((k + 1) % n : Nat) : Int) := by rw [IntKind.wrap_i64]; omega
      have FB := Lib.hid (show Bx wr Bv #[.slice (some ⟨b, off, none⟩) n c] 35 from hnx.2.trans HBX.out)
      have FE := Lib.hid ((Pt1.mk HLT.out (HC.out k hlt).1 (HC.out k hlt).2).below (HB.out.trans hnx.1) (Nat.le_refl _))
      have FG := Lib.hid ((Pt1.mk HLT.out (HC.out _ hk2).1 (HC.out _ hk2).2).below (HB.out.trans hnx.1) (Nat.le_refl _))
      have HNX := Lib.hid hnx; clear hnx
      have EV := Lib.hid (show edgeV f g n k = .agg #[.int .i64 (k : Int), .int .i64 (((k + 1) % n : Nat) : Int), .int .i64 (f k), .int .i64 (g k), .int .i64 (f ((k + 1) % n)), .int .i64 (g ((k + 1) % n))] from rfl)
      generalize hK2 : (k + 1) % n = k2 at *
      gi_wp2
      refine wpIn_region_any (by kernel_rfl) ?_
      change wpAnyIn _ _ _ _ _ _ _ _ _ (World.drew _)
      have RB1 := Lib.hid (below_drew0 wr)
      refine wpAnyIn_tail WideF.wide (fun a b => a = b) (fun _ => rfl) (fun _ _ _ h k => h.trans k) [⟨0, 23, fun z_ _ => z_ = .func (.yield l) #[] #[]⟩, ⟨1, 24, fun z_ _ => z_ = .int .i64 (k : Int)⟩, ⟨2, 25, fun z_ _ => z_ = .int .i64 (k2 : Int)⟩, ⟨3, 26, fun z_ _ => z_ = .slice (some ⟨b, off, none⟩) n c⟩, ⟨4, 27, fun z_ _ => z_ = .int .i64 (k : Int)⟩, ⟨5, 28, fun z_ _ => z_ = .pointer (some ⟨b, off + k * 2, none⟩)⟩, ⟨6, 29, fun z_ _ => z_ = .agg #[.int .i64 (f k), .int .i64 (g k)]⟩, ⟨7, 30, fun z_ _ => z_ = .slice (some ⟨b, off, none⟩) n c⟩, ⟨8, 31, fun z_ _ => z_ = .int .i64 (k2 : Int)⟩, ⟨9, 32, fun z_ _ => z_ = .pointer (some ⟨b, off + k2 * 2, none⟩)⟩, ⟨10, 33, fun z_ _ => z_ = .agg #[.int .i64 (f k2), .int .i64 (g k2)]⟩, ⟨11, 34, fun z_ _ => z_ = .agg #[.int .i64 (k : Int), .int .i64 (k2 : Int), .int .i64 (f k), .int .i64 (g k), .int .i64 (f k2), .int .i64 (g k2)]⟩] 12 (by kernel_rfl) ?_ ?_ ?_
      · refine ⟨?_, ?_, ?_, ?_, ?_, ?_, ?_, ?_, ?_, ?_, ?_, ?_, trivial⟩
        all_goals (intro x w w' hb h; first | exact h | (obtain ⟨b_, h1, h2⟩ := h; exact ⟨b_, h1, h2.below hb (Nat.le_refl _)⟩))
      · refine ⟨?_, ?_, ?_, ?_, ?_, ?_, ?_, ?_, ?_, ?_, ?_, ?_, trivial⟩
        · intro a wz K hb ht hd hK
          have hbw := Lib.hid (show Below wr.heap.size wr wz from hb ▸ RB1.out); clear hb
          have hx0 := (ht 0 rfl).trans rfl
          have es0 : a.tmps.getD 0 undef = _ := getD_of hx0; clear hx0
          clear ht hd
          have HK := Lib.hid hK; clear hK
          refine wpOpP_step (by simp only [List.getElem?_toArray, List.getElem?_cons_succ, List.getElem?_cons_zero]; rfl) (fun K' hK' => ?_)
          have HK' := Lib.hid hK'; clear hK'
          go_simp
          exact HK'.out _ _ (HK.out _ _ rfl rfl)
        · intro a wz K hb ht hd hK
          have hbw := Lib.hid (show Below wr.heap.size wr wz from hb ▸ RB1.out); clear hb
          have hx4 := (ht 4 rfl).trans rfl
          have es4 : a.tmps.getD 4 undef = _ := getD_of hx4; clear hx4
          clear ht hd
          have HK := Lib.hid hK; clear hK
          refine wpOpP_step (by simp only [List.getElem?_toArray, List.getElem?_cons_succ, List.getElem?_cons_zero]; rfl) (fun K' hK' => ?_)
          have HK' := Lib.hid hK'; clear hK'
          go_simp
          exact HK'.out _ _ (HK.out _ _ rfl rfl)
        · intro a wz K hb ht hd hK
          have hbw := Lib.hid (show Below wr.heap.size wr wz from hb ▸ RB1.out); clear hb
          have hx5 := (ht 5 rfl).trans rfl
          have es5 : a.tmps.getD 5 undef = _ := getD_of hx5; clear hx5
          clear ht hd
          have HK := Lib.hid hK; clear hK
          refine wpOpP_step (by simp only [List.getElem?_toArray, List.getElem?_cons_succ, List.getElem?_cons_zero]; rfl) (fun K' hK' => ?_)
          have HK' := Lib.hid hK'; clear hK'
          go_simp
          exact HK'.out _ _ (HK.out _ _ rfl rfl)
        · intro a wz K hb ht hd hK
          have hbw := Lib.hid (show Below wr.heap.size wr wz from hb ▸ RB1.out); clear hb
          have hx1 := (ht 1 rfl).trans rfl
          have es1 : a.tmps.getD 1 undef = _ := getD_of hx1; clear hx1
          clear ht hd
          have zc0 := (FB.out.below hbw.out (Nat.le_refl _)).cell 0 (v := .slice (some ⟨b, off, none⟩) n c) rfl
          have HK := Lib.hid hK; clear hK
          refine wpOpP_step (by simp only [List.getElem?_toArray, List.getElem?_cons_succ, List.getElem?_cons_zero]; rfl) (fun K' hK' => ?_)
          have HK' := Lib.hid hK'; clear hK'
          go_simp
          exact HK'.out _ _ (HK.out _ _ rfl rfl)
        · intro a wz K hb ht hd hK
          have hbw := Lib.hid (show Below wr.heap.size wr wz from hb ▸ RB1.out); clear hb
          have hx4 := (ht 4 rfl).trans rfl
          have es4 : a.tmps.getD 4 undef = _ := getD_of hx4; clear hx4
          clear ht hd
          have HK := Lib.hid hK; clear hK
          refine wpOpP_step (by simp only [List.getElem?_toArray, List.getElem?_cons_succ, List.getElem?_cons_zero]; rfl) (fun K' hK' => ?_)
          have HK' := Lib.hid hK'; clear hK'
          go_simp
          exact HK'.out _ _ (HK.out _ _ rfl rfl)
        · intro a wz K hb ht hd hK
          have hbw := Lib.hid (show Below wr.heap.size wr wz from hb ▸ RB1.out); clear hb
          obtain ⟨x26, hx26, hp26⟩ := hd 3 _ rfl (by kernel_rfl)
          obtain rfl := hp26
          have es26 : a.tmps.getD 26 undef = _ := getD_of hx26; clear hx26
          obtain ⟨x27, hx27, hp27⟩ := hd 4 _ rfl (by kernel_rfl)
          obtain rfl := hp27
          have es27 : a.tmps.getD 27 undef = _ := getD_of hx27; clear hx27
          clear ht hd
          have HK := Lib.hid hK; clear hK
          refine wpOpP_step (by simp only [List.getElem?_toArray, List.getElem?_cons_succ, List.getElem?_cons_zero]; rfl) (fun K' hK' => ?_)
          have HK' := Lib.hid hK'; clear hK'
          go_simp
          exact HK'.out _ _ (HK.out _ _ rfl rfl)
        · intro a wz K hb ht hd hK
          have hbw := Lib.hid (show Below wr.heap.size wr wz from hb ▸ RB1.out); clear hb
          obtain ⟨x28, hx28, hp28⟩ := hd 5 _ rfl (by kernel_rfl)
          obtain rfl := hp28
          have es28 : a.tmps.getD 28 undef = _ := getD_of hx28; clear hx28
          clear ht hd
          have zc0 := (FE.out.below hbw.out (Nat.le_refl _)).x
          have zc1 := (FE.out.below hbw.out (Nat.le_refl _)).y
          have HK := Lib.hid hK; clear hK
          refine wpOpP_step (by simp only [List.getElem?_toArray, List.getElem?_cons_succ, List.getElem?_cons_zero]; rfl) (fun K' hK' => ?_)
          have HK' := Lib.hid hK'; clear hK'
          go_simp
          exact HK'.out _ _ (HK.out _ _ rfl rfl)
        · intro a wz K hb ht hd hK
          have hbw := Lib.hid (show Below wr.heap.size wr wz from hb ▸ RB1.out); clear hb
          have hx1 := (ht 1 rfl).trans rfl
          have es1 : a.tmps.getD 1 undef = _ := getD_of hx1; clear hx1
          clear ht hd
          have zc0 := (FB.out.below hbw.out (Nat.le_refl _)).cell 0 (v := .slice (some ⟨b, off, none⟩) n c) rfl
          have HK := Lib.hid hK; clear hK
          refine wpOpP_step (by simp only [List.getElem?_toArray, List.getElem?_cons_succ, List.getElem?_cons_zero]; rfl) (fun K' hK' => ?_)
          have HK' := Lib.hid hK'; clear hK'
          go_simp
          exact HK'.out _ _ (HK.out _ _ rfl rfl)
        · intro a wz K hb ht hd hK
          have hbw := Lib.hid (show Below wr.heap.size wr wz from hb ▸ RB1.out); clear hb
          have hx5 := (ht 5 rfl).trans rfl
          have es5 : a.tmps.getD 5 undef = _ := getD_of hx5; clear hx5
          clear ht hd
          have HK := Lib.hid hK; clear hK
          refine wpOpP_step (by simp only [List.getElem?_toArray, List.getElem?_cons_succ, List.getElem?_cons_zero]; rfl) (fun K' hK' => ?_)
          have HK' := Lib.hid hK'; clear hK'
          go_simp
          exact HK'.out _ _ (HK.out _ _ rfl rfl)
        · intro a wz K hb ht hd hK
          have hbw := Lib.hid (show Below wr.heap.size wr wz from hb ▸ RB1.out); clear hb
          obtain ⟨x30, hx30, hp30⟩ := hd 7 _ rfl (by kernel_rfl)
          obtain rfl := hp30
          have es30 : a.tmps.getD 30 undef = _ := getD_of hx30; clear hx30
          obtain ⟨x31, hx31, hp31⟩ := hd 8 _ rfl (by kernel_rfl)
          obtain rfl := hp31
          have es31 : a.tmps.getD 31 undef = _ := getD_of hx31; clear hx31
          clear ht hd
          have HK := Lib.hid hK; clear hK
          refine wpOpP_step (by simp only [List.getElem?_toArray, List.getElem?_cons_succ, List.getElem?_cons_zero]; rfl) (fun K' hK' => ?_)
          have HK' := Lib.hid hK'; clear hK'
          go_simp
          exact HK'.out _ _ (HK.out _ _ rfl rfl)
        · intro a wz K hb ht hd hK
          have hbw := Lib.hid (show Below wr.heap.size wr wz from hb ▸ RB1.out); clear hb
          obtain ⟨x32, hx32, hp32⟩ := hd 9 _ rfl (by kernel_rfl)
          obtain rfl := hp32
          have es32 : a.tmps.getD 32 undef = _ := getD_of hx32; clear hx32
          clear ht hd
          have zc0 := (FG.out.below hbw.out (Nat.le_refl _)).x
          have zc1 := (FG.out.below hbw.out (Nat.le_refl _)).y
          have HK := Lib.hid hK; clear hK
          refine wpOpP_step (by simp only [List.getElem?_toArray, List.getElem?_cons_succ, List.getElem?_cons_zero]; rfl) (fun K' hK' => ?_)
          have HK' := Lib.hid hK'; clear hK'
          go_simp
          exact HK'.out _ _ (HK.out _ _ rfl rfl)
        · intro a wz K hb ht hd hK
          have hbw := Lib.hid (show Below wr.heap.size wr wz from hb ▸ RB1.out); clear hb
          obtain ⟨x24, hx24, hp24⟩ := hd 1 _ rfl (by kernel_rfl)
          obtain rfl := hp24
          have es24 : a.tmps.getD 24 undef = _ := getD_of hx24; have et24 := getO_of hx24; clear hx24
          obtain ⟨x25, hx25, hp25⟩ := hd 2 _ rfl (by kernel_rfl)
          obtain rfl := hp25
          have es25 : a.tmps.getD 25 undef = _ := getD_of hx25; have et25 := getO_of hx25; clear hx25
          obtain ⟨x29, hx29, hp29⟩ := hd 6 _ rfl (by kernel_rfl)
          obtain rfl := hp29
          have es29 : a.tmps.getD 29 undef = _ := getD_of hx29; have et29 := getO_of hx29; clear hx29
          obtain ⟨x33, hx33, hp33⟩ := hd 10 _ rfl (by kernel_rfl)
          obtain rfl := hp33
          have es33 : a.tmps.getD 33 undef = _ := getD_of hx33; have et33 := getO_of hx33; clear hx33
          clear ht hd
          have HK := Lib.hid hK; clear hK
          refine wpOpP_step (by simp only [List.getElem?_toArray, List.getElem?_cons_succ, List.getElem?_cons_zero]; rfl) (fun K' hK' => ?_)
          have HK' := Lib.hid hK'; clear hK'
          go_simp
          exact HK'.out _ _ (HK.out _ _ rfl rfl)
      intro w2 X hb hv
      simp only [List.foldl_cons, List.foldl_nil, Act.put, List.setIfInBounds_toArray, List.set_cons_zero, List.set_cons_succ, List.toList_toArray, List.drop_succ_cons, List.drop_zero]
      obtain ⟨hv0, hv1, hv2, hv3, hv4, hv5, hv6, hv7, hv8, hv9, hv10, hv11, -⟩ := hv
      have hV0 : (fun z_ _ => z_ = .func (.yield l) #[] #[]) (X 23) w2 := hv0; clear hv0; have hv0 := hV0; clear hV0; generalize X 23 = X23 at *
      have hV1 : (fun z_ _ => z_ = .int .i64 (k : Int)) (X 24) w2 := hv1; clear hv1; have hv1 := hV1; clear hV1; generalize X 24 = X24 at *
      have hV2 : (fun z_ _ => z_ = .int .i64 (k2 : Int)) (X 25) w2 := hv2; clear hv2; have hv2 := hV2; clear hV2; generalize X 25 = X25 at *
      have hV3 : (fun z_ _ => z_ = .slice (some ⟨b, off, none⟩) n c) (X 26) w2 := hv3; clear hv3; have hv3 := hV3; clear hV3; generalize X 26 = X26 at *
      have hV4 : (fun z_ _ => z_ = .int .i64 (k : Int)) (X 27) w2 := hv4; clear hv4; have hv4 := hV4; clear hV4; generalize X 27 = X27 at *
      have hV5 : (fun z_ _ => z_ = .pointer (some ⟨b, off + k * 2, none⟩)) (X 28) w2 := hv5; clear hv5; have hv5 := hV5; clear hV5; generalize X 28 = X28 at *
      have hV6 : (fun z_ _ => z_ = .agg #[.int .i64 (f k), .int .i64 (g k)]) (X 29) w2 := hv6; clear hv6; have hv6 := hV6; clear hV6; generalize X 29 = X29 at *
      have hV7 : (fun z_ _ => z_ = .slice (some ⟨b, off, none⟩) n c) (X 30) w2 := hv7; clear hv7; have hv7 := hV7; clear hV7; generalize X 30 = X30 at *
      have hV8 : (fun z_ _ => z_ = .int .i64 (k2 : Int)) (X 31) w2 := hv8; clear hv8; have hv8 := hV8; clear hV8; generalize X 31 = X31 at *
      have hV9 : (fun z_ _ => z_ = .pointer (some ⟨b, off + k2 * 2, none⟩)) (X 32) w2 := hv9; clear hv9; have hv9 := hV9; clear hV9; generalize X 32 = X32 at *
      have hV10 : (fun z_ _ => z_ = .agg #[.int .i64 (f k2), .int .i64 (g k2)]) (X 33) w2 := hv10; clear hv10; have hv10 := hV10; clear hV10; generalize X 33 = X33 at *
      have hV11 : (fun z_ _ => z_ = .agg #[.int .i64 (k : Int), .int .i64 (k2 : Int), .int .i64 (f k), .int .i64 (g k), .int .i64 (f k2), .int .i64 (g k2)]) (X 34) w2 := hv11; clear hv11; have hv11 := hV11; clear hV11; generalize X 34 = X34 at *
      obtain rfl := hv0
      obtain rfl := hv1
      obtain rfl := hv2
      obtain rfl := hv3
      obtain rfl := hv4
      obtain rfl := hv5
      obtain rfl := hv6
      obtain rfl := hv7
      obtain rfl := hv8
      obtain rfl := hv9
      obtain rfl := hv10
      obtain rfl := hv11
      have RC := Lib.hid (show Below wr.heap.size wr w2 from hb ▸ RB1.out)
      have HE := Lib.hid hb; clear hb
      have FB_2 := Lib.hid (FB.out.below RC.out (Nat.le_refl _))
      have FE_2 := Lib.hid (FE.out.below RC.out (Nat.le_refl _))
      have FG_2 := Lib.hid (FG.out.below RC.out (Nat.le_refl _))
      clear  FB FE FG RB1
      have hJ1 := hJd _ _ hJs; rw [HE.out] at hJ1
      obtain ⟨fn, tmps, assign, body, hy, hR⟩ := hY _ ⟨k, hlt⟩ w2 hJ1 (by rw [fup_len (by omega)]; exact hlt)
      rw [show edgeV f g n (⟨k, hlt⟩ : Fin n) = _ from EV.out] at hy
      gi_wp2
      refine hR.mono ?_
      rintro e W3 (⟨rfl, hJ3, hk3⟩ | ⟨rfl, hJx3⟩)
      · gi_wp2
        go_roundw
        case rel => exact ⟨k + 1, by omega, by simp, by rw [fup_succ hlt]; exact hJ3, (HE.out ▸ HNX.out.dr).trans hk3⟩
        case measure => simp [intOf]; omega
      · gi_wp2
        refine bodyPost_ret (results_none rfl _ _ _) rfl ?_
        exact ⟨⟨_, rfl⟩, .inr ⟨_, ⟨k + 1, by omega, (fup_succ hlt).symm⟩, hJx3⟩⟩
    · obtain rfl : k = n := by omega
      gi_wp2
      go_end0
      exact ⟨⟨_, rfl⟩, .inl ⟨_, rfl, hJs⟩⟩
set_option maxRecDepth 100000 in
set_option maxHeartbeats 4000000 in
theorem edges1_out (m l Bv : Nat) (A : Option Addr) (n c : Nat) (hn : n ≤ maxLen) (hin : ¬ inP n) {J : World → Prop} (W : World) (hB : Bx W Bv #[.slice A n c] 35) (h0 : J W) :
    CallsIn Fence.wide m Tryd.prog 85 #[.func (.yield l) #[] #[], .pointer (some ⟨Bv, 0, none⟩)] W fun e W' => (∃ v, e = .returned v) ∧ J W' := by
  have bc := hB.cell 0 (v := .slice A n c) rfl
  clear hB
  unfold inP at hin
  rcases (by omega : n < 3 ∨ (3 ≤ n ∧ 64 < n)) with h | ⟨h2, h⟩
  · have q1 : (n : Int) < 3 := by omega
    refine callsIn_of_wp Tryd.func85 rfl trivial ?_ rfl
    simp only [Tryd.ntmps85, List.size_toArray, List.length_cons, List.length_nil, Nat.reduceAdd, Nat.reduceSub, Array.replicate_succ, Array.replicate_zero, List.push_toArray, List.append_toArray, List.nil_append, List.cons_append]
    gi_wp2
    refine bodyPost_ret (results_none rfl _ _ _) rfl ?_
    exact ⟨⟨_, rfl⟩, h0⟩
  · have q1 : ¬ ((n : Int) < 3) := by omega
    have q2 : (64 : Int) < n := by omega
    refine callsIn_of_wp Tryd.func85 rfl trivial ?_ rfl
    simp only [Tryd.ntmps85, List.size_toArray, List.length_cons, List.length_nil, Nat.reduceAdd, Nat.reduceSub, Array.replicate_succ, Array.replicate_zero, List.push_toArray, List.append_toArray, List.nil_append, List.cons_append]
    gi_wp2
    refine bodyPost_ret (results_none rfl _ _ _) rfl ?_
    exact ⟨⟨_, rfl⟩, h0⟩
theorem grownBy_dr (W : World) : W.grownBy W.drew none := ⟨rfl, rfl, rfl, Nat.le_refl _, fun _ _ _ => rfl⟩
/-- the edges that come -/
def eds (n : Nat) : List (Fin n) := if inP n then fup n n else []
theorem edges_stops (m Bv : Nat) (hm : 1 ≤ m) (r : World) (A : Option Addr) (n c : Nat) (f g : Nat → Int) (hp : Pts r A n c f g) (w : World) (hb : Below r.heap.size r w) (hB : Bx w Bv #[.slice A n c] 35) :
    SeqStopsK Fence.wide m Tryd.prog 85 #[.pointer (some ⟨Bv, 0, none⟩)] (fun x : Fin n => #[edgeV f g n x]) (KpE r.heap.size Bv) (fun xs => xs = eds n) (fun _ => True) n w := fun l J Jx W hW hJ _ hY h0 => by
  have hbW := hb.trans (hW.mono hb.size)
  have hBW := hB.below hW (Nat.le_refl _)
  by_cases hin : inP n
  · refine (edges1_in m l Bv hm r A n c f g hp hin J Jx (fun s W h => hJ s W _ none h (grownBy_dr W) (by simp)) hY W hbW hBW h0).mono ?_
    rintro e W' ⟨he, ⟨ys, rfl, hj⟩ | ⟨pre, _, hj⟩⟩
    · exact ⟨he, .inl ⟨_, by rw [eds, if_pos hin], hj⟩⟩
    · exact ⟨he, .inr ⟨_, trivial, hj⟩⟩
  · refine (edges1_out m l Bv A n c (Nat.le_trans hp.cap hp.max) hin W hBW (J := J []) h0).mono ?_
    rintro e W' ⟨he, hj⟩
    exact ⟨he, .inl ⟨[], by rw [eds, if_neg hin], hj⟩⟩
theorem polygon_edges (A : Option Addr) (n c : Nat) (w : World) : Calls Tryd.prog 71 #[.slice A n c] w fun e w' => e = .returned (.func (.func 85) #[] #[.pointer (some ⟨w.heap.size, 0, none⟩)]) ∧ w' = w.alloc (.cells #[.slice A n c] 35) := by
  go_enter Tryd.func71, Tryd.ntmps71
  go_wp2
  go_ret
  exact ⟨rfl, rfl⟩
end Go.Proofs.YtoikcgmdlccdbaaDoor
