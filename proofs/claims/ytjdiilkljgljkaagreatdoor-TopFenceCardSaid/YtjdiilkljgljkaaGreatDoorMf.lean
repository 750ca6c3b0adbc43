/- The iterator over a polygon's edges. Contracts of the reference's conversions (geofenceref03.Is, Same, power, Int). The contract of the reference's product (geofenceref03.Mul). Contracts of the reference of layer 6: products, minors, the determinant, its sign. Orientation of a polygon; the reference's helpers. Contracts of package mask at comparisons: Less, LessSigned, Negative. -/
import Derived.Test.YtjdiilkljgljkaaGreatDoorMd
import Derived.Test.YtjdiilkljgljkaaGreatDoorMa
import Derived.Test.YtjdiilkljgljkaaGreatDoorMe
import Derived.RangeFuncNested
import Derived.RangeFuncBound
import Derived.RangeFuncCalls
import Derived.RangeFuncLeaves
import Derived.Shelf.Abstract
import Derived.Shelf.RegionOpen
import Derived.WalkKit
import Derived.OwnWalkIn
import Derived.TacticsInMore
import Derived.LoopNIn
import Derived.LoopIn
import Derived.Test.YtjdiilkljgljkaaGreatDoorMc
import Derived.Test.YtjdiilkljgljkaaGreatDoorMb
import Derived.Deep.RegionHeld3
namespace Go.Proofs.YtjdiilkljgljkaaGreatDoor
set_option linter.unusedVariables false
set_option linter.unusedSimpArgs false
open Go.RowKit Wd Go.Shelf
attribute [local go_sem] Oper.semAt_some

/-- a point in memory -/
structure Pt1 (w : World) (b o : Nat) (x y : Int) : Prop where
  lt : b < w.heap.size
  x : w.cell? ⟨b, o, none⟩ = some (.int .i64 x)
  y : w.cell? ⟨b, o + 1, none⟩ = some (.int .i64 y)
theorem Pt1.below {w w' : World} {B b o : Nat} {x y : Int} (h : Pt1 w b o x y) (hb : Below B w w') (hB : w.heap.size ≤ B) : Pt1 w' b o x y := by
  have hlt := h.lt
  exact ⟨Nat.lt_of_lt_of_le h.lt hb.size, (hb.cell (p := ⟨b, o, none⟩) (by show b < B; omega)).trans h.x, (hb.cell (p := ⟨b, o + 1, none⟩) (by show b < B; omega)).trans h.y⟩
/-- the edge from vertex i -/
def edgeV (f g : Nat → Int) (n i : Nat) : Value := .agg #[.int .i64 (i : Int), .int .i64 (((i + 1) % n : Nat) : Int), .int .i64 (f i), .int .i64 (g i), .int .i64 (f ((i + 1) % n)), .int .i64 (g ((i + 1) % n))]
/-- the first k vertices' numbers -/
def fup (n k : Nat) : List (Fin n) := (List.range k).filterMap fun i => if h : i < n then some ⟨i, h⟩ else none
theorem fup_succ {n k : Nat} (h : k < n) : fup n (k + 1) = fup n k ++ [⟨k, h⟩] := by
  unfold fup; rw [List.range_succ, List.filterMap_append]; simp [h]
theorem fup_len {n : Nat} : ∀ {k}, k ≤ n → (fup n k).length = k
  | 0, _ => rfl
  | k + 1, h => by rw [fup_succ (by omega), List.length_append, fup_len (by omega)]; rfl
/-- what a round keeps: all below B, and the iterator's own variable -/
def KpE (B Bv : Nat) (W W' : World) : Prop := Below B W W' ∧ W'.heap[Bv]? = W.heap[Bv]?
theorem KpE.trans {B Bv : Nat} {X Y Z : World} (h : KpE B Bv X Y) (k : KpE B Bv Y Z) : KpE B Bv X Z := ⟨h.1.trans k.1, k.2.trans h.2⟩
theorem KpE.rf (B Bv : Nat) (W : World) : KpE B Bv W W := ⟨Below.refl _ _, rfl⟩
theorem KpE.dr {B Bv : Nat} {W W' : World} (h : KpE B Bv W W') : KpE B Bv W W'.drew := ⟨h.1.drew, h.2⟩
theorem tmod_nat (a b : Nat) : ((a : Int) + 1).tmod (b : Int) = (((a + 1) % b : Nat) : Int) := by
  rw [Int.tmod_eq_emod_of_nonneg (by omega)]; simp
set_option maxRecDepth 100000 in
set_option maxHeartbeats 4000000 in
theorem edges1_in (m l Bv : Nat) (hm : 1 ≤ m) (r : World) (A : Option Addr) (n c : Nat) (f g : Nat → Int) (hp : Pts r A n c f g) (hin : inP n) (J Jx : List (Fin n) → World → Prop) (hJd : ∀ s W, J s W → J s W.drew)
    (hY : ∀ pre (x : Fin n) W, J pre W → pre.length < n → YieldAt Fence.wide (m - 1) Tryz.prog l #[edgeV f g n x] W fun e W' => (e = .returned (.bool true) ∧ J (pre ++ [x]) W' ∧ KpE r.heap.size Bv W W') ∨ (e = .returned (.bool false) ∧ Jx (pre ++ [x]) W'))
    (W : World) (hb : Below r.heap.size r W) (hB : Bx W Bv #[.slice A n c] 29) (h0 : J [] W) :
    CallsIn Fence.wide m Tryz.prog 175 #[.func (.yield l) #[] #[], .pointer (some ⟨Bv, 0, none⟩)] W fun e W' => (∃ v, e = .returned v) ∧ ((∃ ys, ys = fup n n ∧ J ys W') ∨ (∃ pre, (∃ k, k ≤ n ∧ pre = fup n k) ∧ Jx pre W')) := by
  have hn3 := hin.1; have hn64 := hin.2
  obtain ⟨b, off, rfl, hlt, hc⟩ := hp.at_ (by omega)
  have HB := Lib.hid hb; have HBX := Lib.hid hB; have HC := Lib.hid hc; have HLT := Lib.hid hlt
  clear hb hc hlt
  have q1 : ¬ ((n : Int) < 3) := by omega
  have q2 : ¬ ((64 : Int) < n) := by omega
  have bc := hB.cell 0 (v := .slice (some ⟨b, off, none⟩) n c) rfl
  clear hB
  refine callsIn_of_wp Tryz.func175 rfl trivial ?_ rfl
  simp only [Tryz.ntmps175, List.size_toArray, List.length_cons, List.length_nil, Nat.reduceAdd, Nat.reduceSub, Array.replicate_succ, Array.replicate_zero, List.push_toArray, List.append_toArray, List.nil_append, List.cons_append]
  gi_wp2
  clear bc
  gi_loopw [16] (fun i wr => ∃ k : Nat, k ≤ n ∧ i = .int .i64 k ∧ J (fup n k) wr ∧ KpE r.heap.size Bv W wr) (fun i _ => n - (intOf i).toNat)
  case atStart => exact ⟨0, Nat.zero_le _, rfl, h0, KpE.rf _ _ _⟩
  case round =>
    obtain ⟨k, hk, rfl, hJs, hnx⟩ := hrel
    by_cases hlt : k < n
    · have hk2 : (k + 1) % n < n := Nat.mod_lt _ (by omega)
      have hmod := tmod_nat k n
      have hw1 : wrap64 ((k : Int) + 1) = (k : Int) + 1 := by rw [← IntWalk.i64_left, IntKind.wrap_i64]; omega
      have hw2 : IntKind.i64.wrap ((k : Int) + 1) = (k : Int) + 1 := by rw [IntKind.wrap_i64]; omega
      have hw3 : wrap64 (((k + 1) % n : Nat) : Int) = (((k + 1) % n : Nat) : Int) := by rw [← IntWalk.i64_left, IntKind.wrap_i64]; omega
      have hw4 : IntKind.i64.wrap (((k + 1) % n : Nat) : Int) = (((k + 1) % n : Nat) : Int) := by rw [IntKind.wrap_i64]; omega
      have FB := Lib.hid (show Bx wr Bv #[.slice (some ⟨b, off, none⟩) n c] 29 from hnx.2.trans HBX.out)
      have FE := Lib.hid ((Pt1.mk HLT.out (HC.out k hlt).1 (HC.out k hlt).2).below (HB.out.trans hnx.1) (Nat.le_refl _))
      have FG := Lib.hid ((Pt1.mk HLT.out (HC.out _ hk2).1 (HC.out _ hk2).2).below (HB.out.trans hnx.1) (Nat.le_refl _))
      have HNX := Lib.hid hnx; clear hnx
      have EV := Lib.hid (show edgeV f g n k = .agg #[.int .i64 (k : Int), .int .i64 (((k + 1) % n : Nat) : Int), .int .i64 (f k), .int .i64 (g k), .int .i64 (f ((k + 1) % n)), .int .i64 (g ((k + 1) % n))] from rfl)
      generalize hK2 : (k + 1) % n = k2 at *
      gi_wp2
      refine wpIn_region_any (by kernel_rfl) ?_
      change wpAnyIn _ _ _ _ _ _ _ _ _ (World.drew _)
      have RB1 := Lib.hid (below_drew0 wr)
      refine wpAnyIn_tail WideF.wide (fun a b => a = b) (fun _ => rfl) (fun _ _ _ h k => h.trans k) [⟨0, 23, fun z_ _ => z_ = .func (.yield l) #[] #[]⟩, ⟨1, 24, fun z_ _ => z_ = .int .i64 (k : Int)⟩, ⟨2, 25, fun z_ _ => z_ = .int .i64 (k2 : Int)⟩, ⟨3, 26, fun z_ _ => z_ = .slice (some ⟨b, off, none⟩) n c⟩, ⟨4, 27, fun z_ _ => z_ = .int .i64 (k : Int)⟩, ⟨5, 28, fun z_ _ => z_ = .pointer (some ⟨b, off + k * 2, none⟩)⟩, ⟨6, 29, fun z_ _ => z_ = .agg #[.int .i64 (f k), .int .i64 (g k)]⟩, ⟨7, 30, fun z_ _ => z_ = .slice (some ⟨b, off, none⟩) n c⟩, ⟨8, 31, fun z_ _ => z_ = .int .i64 (k2 : Int)⟩, ⟨9, 32, fun z_ _ => z_ = .pointer (some ⟨b, off + k2 * 2, none⟩)⟩, ⟨10, 33, fun z_ _ => z_ = .agg #[.int .i64 (f k2), .int .i64 (g k2)]⟩, ⟨11, 34, fun z_ _ => z_ = .agg #[.int .i64 (k : Int), .int .i64 (k2 : Int), .int .i64 (f k), .int .i64 (g k), .int .i64 (f k2), .int .i64 (g k2)]⟩] 12 (by kernel_rfl) ?_ ?_ ?_
      · refine ⟨?_, ?_, ?_, ?_, ?_, ?_, ?_, ?_, ?_, ?_, ?_, ?_, trivial⟩
        all_goals (intro x w w' hb h; first | exact h | (obtain ⟨b_, h1, h2⟩ := h; exact ⟨b_, h1, h2.below hb (Nat.le_refl _)⟩))
      · refine ⟨?_, ?_, ?_, ?_, ?_, ?_, ?_, ?_, ?_, ?_, ?_, ?_, trivial⟩
        · intro a wz K hb ht hd hK
          have hbw := Lib.hid (show Below wr.heap.size wr wz from hb ▸ RB1.out); clear hb
          have hx0 := (ht 0 rfl).trans rfl
          have es0 : a.tmps.getD 0 undef = _ := getD_of hx0; clear hx0
          clear ht hd
          have HK := Lib.hid hK; clear hK
          refine wpOpP_step (by simp only [List.getElem?_toArray, List.getElem?_cons_succ, List.getElem?_cons_zero]; rfl) (fun K' hK' => ?_)
          have HK' := Lib.hid hK'; clear hK'
          go_simp
          exact HK'.out _ _ (HK.out _ _ rfl rfl)
        · intro a wz K hb ht hd hK
          have hbw := Lib.hid (show Below wr.heap.size wr wz from hb ▸ RB1.out); clear hb
          have hx4 := (ht 4 rfl).trans rfl
          have es4 : a.tmps.getD 4 undef = _ := getD_of hx4; clear hx4
          clear ht hd
          have HK := Lib.hid hK; clear hK
          refine wpOpP_step (by simp only [List.getElem?_toArray, List.getElem?_cons_succ, List.getElem?_cons_zero]; rfl) (fun K' hK' => ?_)
          have HK' := Lib.hid hK'; clear hK'
          go_simp
          exact HK'.out _ _ (HK.out _ _ rfl rfl)
        · intro a wz K hb ht hd hK
          have hbw := Lib.hid (show Below wr.heap.size wr wz from hb ▸ RB1.out); clear hb
          have hx5 := (ht 5 rfl).trans rfl
          have es5 : a.tmps.getD 5 undef = _ := getD_of hx5; clear hx5
          clear ht hd
          have HK := Lib.hid hK; clear hK
          refine wpOpP_step (by simp only [List.getElem?_toArray, List.getElem?_cons_succ, List.getElem?_cons_zero]; rfl) (fun K' hK' => ?_)
          have HK' := Lib.hid hK'; clear hK'
          go_simp
          exact HK'.out _ _ (HK.out _ _ rfl rfl)
        · intro a wz K hb ht hd hK
          have hbw := Lib.hid (show Below wr.heap.size wr wz from hb ▸ RB1.out); clear hb
          have hx1 := (ht 1 rfl).trans rfl
          have es1 : a.tmps.getD 1 undef = _ := getD_of hx1; clear hx1
          clear ht hd
          have zc0 := (FB.out.below hbw.out (Nat.le_refl _)).cell 0 (v := .slice (some ⟨b, off, none⟩) n c) rfl
          have HK := Lib.hid hK; clear hK
          refine wpOpP_step (by simp only [List.getElem?_toArray, List.getElem?_cons_succ, List.getElem?_cons_zero]; rfl) (fun K' hK' => ?_)
          have HK' := Lib.hid hK'; clear hK'
          go_simp
          exact HK'.out _ _ (HK.out _ _ rfl rfl)
        · intro a wz K hb ht hd hK
          have hbw := Lib.hid (show Below wr.heap.size wr wz from hb ▸ RB1.out); clear hb
          have hx4 := (ht 4 rfl).trans rfl
          have es4 : a.tmps.getD 4 undef = _ := getD_of hx4; clear hx4
          clear ht hd
          have HK := Lib.hid hK; clear hK
          refine wpOpP_step (by simp only [List.getElem?_toArray, List.getElem?_cons_succ, List.getElem?_cons_zero]; rfl) (fun K' hK' => ?_)
          have HK' := Lib.hid hK'; clear hK'
          go_simp
          exact HK'.out _ _ (HK.out _ _ rfl rfl)
        · intro a wz K hb ht hd hK
          have hbw := Lib.hid (show Below wr.heap.size wr wz from hb ▸ RB1.out); clear hb
          obtain ⟨x26, hx26, hp26⟩ := hd 3 _ rfl (by kernel_rfl)
          obtain rfl := hp26
          have es26 : a.tmps.getD 26 undef = _ := getD_of hx26; clear hx26
          obtain ⟨x27, hx27, hp27⟩ := hd 4 _ rfl (by kernel_rfl)
          obtain rfl := hp27
          have es27 : a.tmps.getD 27 undef = _ := getD_of hx27; clear hx27
          clear ht hd
          have HK := Lib.hid hK; clear hK
          refine wpOpP_step (by simp only [List.getElem?_toArray, List.getElem?_cons_succ, List.getElem?_cons_zero]; rfl) (fun K' hK' => ?_)
          have HK' := Lib.hid hK'; clear hK'
          go_simp
          exact HK'.out _ _ (HK.out _ _ rfl rfl)
        · intro a wz K hb ht hd hK
          have hbw := Lib.hid (show Below wr.heap.size wr wz from hb ▸ RB1.out); clear hb
          obtain ⟨x28, hx28, hp28⟩ := hd 5 _ rfl (by kernel_rfl)
          obtain rfl := hp28
          have es28 : a.tmps.getD 28 undef = _ := getD_of hx28; clear hx28
          clear ht hd
          have zc0 := (FE.out.below hbw.out (Nat.le_refl _)).x
          have zc1 := (FE.out.below hbw.out (Nat.le_refl _)).y
          have HK := Lib.hid hK; clear hK
          refine wpOpP_step (by simp only [List.getElem?_toArray, List.getElem?_cons_succ, List.getElem?_cons_zero]; rfl) (fun K' hK' => ?_)
          have HK' := Lib.hid hK'; clear hK'
          go_simp
          exact HK'.out _ _ (HK.out _ _ rfl rfl)
        · intro a wz K hb ht hd hK
          have hbw := Lib.hid (show Below wr.heap.size wr wz from hb ▸ RB1.out); clear hb
          have hx1 := (ht 1 rfl).trans rfl
          have es1 : a.tmps.getD 1 undef = _ := getD_of hx1; clear hx1
          clear ht hd
          have zc0 := (FB.out.below hbw.out (Nat.le_refl _)).cell 0 (v := .slice (some ⟨b, off, none⟩) n c) rfl
          have HK := Lib.hid hK; clear hK
          refine wpOpP_step (by simp only [List.getElem?_toArray, List.getElem?_cons_succ, List.getElem?_cons_zero]; rfl) (fun K' hK' => ?_)
          have HK' := Lib.hid hK'; clear hK'
          go_simp
          exact HK'.out _ _ (HK.out _ _ rfl rfl)
        · intro a wz K hb ht hd hK
          have hbw := Lib.hid (show Below wr.heap.size wr wz from hb ▸ RB1.out); clear hb
          have hx5 := (ht 5 rfl).trans rfl
          have es5 : a.tmps.getD 5 undef = _ := getD_of hx5; clear hx5
          clear ht hd
          have HK := Lib.hid hK; clear hK
          refine wpOpP_step (by simp only [List.getElem?_toArray, List.getElem?_cons_succ, List.getElem?_cons_zero]; rfl) (fun K' hK' => ?_)
          have HK' := Lib.hid hK'; clear hK'
          go_simp
          exact HK'.out _ _ (HK.out _ _ rfl rfl)
        · intro a wz K hb ht hd hK
          have hbw := Lib.hid (show Below wr.heap.size wr wz from hb ▸ RB1.out); clear hb
          obtain ⟨x30, hx30, hp30⟩ := hd 7 _ rfl (by kernel_rfl)
          obtain rfl := hp30
          have es30 : a.tmps.getD 30 undef = _ := getD_of hx30; clear hx30
          obtain ⟨x31, hx31, hp31⟩ := hd 8 _ rfl (by kernel_rfl)
          obtain rfl := hp31
          have es31 : a.tmps.getD 31 undef = _ := getD_of hx31; clear hx31
          clear ht hd
          have HK := Lib.hid hK; clear hK
          refine wpOpP_step (by simp only [List.getElem?_toArray, List.getElem?_cons_succ, List.getElem?_cons_zero]; rfl) (fun K' hK' => ?_)
          have HK' := Lib.hid hK'; clear hK'
          go_simp
          exact HK'.out _ _ (HK.out _ _ rfl rfl)
        · intro a wz K hb ht hd hK
          have hbw := Lib.hid (show Below wr.heap.size wr wz from hb ▸ RB1.out); clear hb
          obtain ⟨x32, hx32, hp32⟩ := hd 9 _ rfl (by kernel_rfl)
          obtain rfl := hp32
          have es32 : a.tmps.getD 32 undef = _ := getD_of hx32; clear hx32
          clear ht hd
          have zc0 := (FG.out.below hbw.out (Nat.le_refl _)).x
          have zc1 := (FG.out.below hbw.out (Nat.le_refl _)).y
          have HK := Lib.hid hK; clear hK
          refine wpOpP_step (by simp only [List.getElem?_toArray, List.getElem?_cons_succ, List.getElem?_cons_zero]; rfl) (fun K' hK' => ?_)
          have HK' := Lib.hid hK'; clear hK'
          go_simp
          exact HK'.out _ _ (HK.out _ _ rfl rfl)
        · intro a wz K hb ht hd hK
          have hbw := Lib.hid (show Below wr.heap.size wr wz from hb ▸ RB1.out); clear hb
          obtain ⟨x24, hx24, hp24⟩ := hd 1 _ rfl (by kernel_rfl)
          obtain rfl := hp24
          have es24 : a.tmps.getD 24 undef = _ := getD_of hx24; have et24 := getO_of hx24; clear hx24
          obtain ⟨x25, hx25, hp25⟩ := hd 2 _ rfl (by kernel_rfl)
          obtain rfl := hp25
          have es25 : a.tmps.getD 25 undef = _ := getD_of hx25; have et25 := getO_of hx25; clear hx25
          obtain ⟨x29, hx29, hp29⟩ := hd 6 _ rfl (by kernel_rfl)
          obtain rfl := hp29
          have es29 : a.tmps.getD 29 undef = _ := getD_of hx29; have et29 := getO_of hx29; clear hx29
          obtain ⟨x33, hx33, hp33⟩ := hd 10 _ rfl (by kernel_rfl)
          obtain rfl := hp33
          have es33 : a.tmps.getD 33 undef = _ := getD_of hx33; have et33 := getO_of hx33; clear hx33
          clear ht hd
          have HK := Lib.hid hK; clear hK
          refine wpOpP_step (by simp only [List.getElem?_toArray, List.getElem?_cons_succ, List.getElem?_cons_zero]; rfl) (fun K' hK' => ?_)
          have HK' := Lib.hid hK'; clear hK'
          go_simp
          exact HK'.out _ _ (HK.out _ _ rfl rfl)
      intro w2 X hb hv
      simp only [List.foldl_cons, List.foldl_nil, Act.put, List.setIfInBounds_toArray, List.set_cons_zero, List.set_cons_succ, List.toList_toArray, List.drop_succ_cons, List.drop_zero]
      obtain ⟨hv0, hv1, hv2, hv3, hv4, hv5, hv6, hv7, hv8, hv9, hv10, hv11, -⟩ := hv
      have hV0 : (fun z_ _ => z_ = .func (.yield l) #[] #[]) (X 23) w2 := hv0; clear hv0; have hv0 := hV0; clear hV0; generalize X 23 = X23 at *
      have hV1 : (fun z_ _ => z_ = .int .i64 (k : Int)) (X 24) w2 := hv1; clear hv1; have hv1 := hV1; clear hV1; generalize X 24 = X24 at *
      have hV2 : (fun z_ _ => z_ = .int .i64 (k2 : Int)) (X 25) w2 := hv2; clear hv2; have hv2 := hV2; clear hV2; generalize X 25 = X25 at *
      have hV3 : (fun z_ _ => z_ = .slice (some ⟨b, off, none⟩) n c) (X 26) w2 := hv3; clear hv3; have hv3 := hV3; clear hV3; generalize X 26 = X26 at *
      have hV4 : (fun z_ _ => z_ = .int .i64 (k : Int)) (X 27) w2 := hv4; clear hv4; have hv4 := hV4; clear hV4; generalize X 27 = X27 at *
      have hV5 : (fun z_ _ => z_ = .pointer (some ⟨b, off + k * 2, none⟩)) (X 28) w2 := hv5; clear hv5; have hv5 := hV5; clear hV5; generalize X 28 = X28 at *
      have hV6 : (fun z_ _ => z_ = .agg #[.int .i64 (f k), .int .i64 (g k)]) (X 29) w2 := hv6; clear hv6; have hv6 := hV6; clear hV6; generalize X 29 = X29 at *
      have hV7 : (fun z_ _ => z_ = .slice (some ⟨b, off, none⟩) n c) (X 30) w2 := hv7; clear hv7; have hv7 := hV7; clear hV7; generalize X 30 = X30 at *
      have hV8 : (fun z_ _ => z_ = .int .i64 (k2 : Int)) (X 31) w2 := hv8; clear hv8; have hv8 := hV8; clear hV8; generalize X 31 = X31 at *
      have hV9 : (fun z_ _ => z_ = .pointer (some ⟨b, off + k2 * 2, none⟩)) (X 32) w2 := hv9; clear hv9; have hv9 := hV9; clear hV9; generalize X 32 = X32 at *
      have hV10 : (fun z_ _ => z_ = .agg #[.int .i64 (f k2), .int .i64 (g k2)]) (X 33) w2 := hv10; clear hv10; have hv10 := hV10; clear hV10; generalize X 33 = X33 at *
      have hV11 : (fun z_ _ => z_ = .agg #[.int .i64 (k : Int), .int .i64 (k2 : Int), .int .i64 (f k), .int .i64 (g k), .int .i64 (f k2), .int .i64 (g k2)]) (X 34) w2 := hv11; clear hv11; have hv11 := hV11; clear hV11; generalize X 34 = X34 at *
      obtain rfl := hv0
      obtain rfl := hv1
      obtain rfl := hv2
      obtain rfl := hv3
      obtain rfl := hv4
      obtain rfl := hv5
      obtain rfl := hv6
      obtain rfl := hv7
      obtain rfl := hv8
      obtain rfl := hv9
      obtain rfl := hv10
      obtain rfl := hv11
      have RC := Lib.hid (show Below wr.heap.size wr w2 from hb ▸ RB1.out)
      have HE := Lib.hid hb; clear hb
      have FB_2 := Lib.hid (FB.out.below RC.out (Nat.le_refl _))
      have FE_2 := Lib.hid (FE.out.below RC.out (Nat.le_refl _))
      have FG_2 := Lib.hid (FG.out.below RC.out (Nat.le_refl _))
      clear  FB FE FG RB1
      have hJ1 := hJd _ _ hJs; rw [HE.out] at hJ1
      obtain ⟨fn, tmps, assign, body, hy, hR⟩ := hY _ ⟨k, hlt⟩ w2 hJ1 (by rw [fup_len (by omega)]; exact hlt)
      rw [show edgeV f g n (⟨k, hlt⟩ : Fin n) = _ from EV.out] at hy
      gi_wp2
      refine hR.mono ?_
      rintro e W3 (⟨rfl, hJ3, hk3⟩ | ⟨rfl, hJx3⟩)
      · gi_wp2
        go_roundw
        case rel => exact ⟨k + 1, by omega, by simp, by rw [fup_succ hlt]; exact hJ3, (HE.out ▸ HNX.out.dr).trans hk3⟩
        case measure => simp [intOf]; omega
      · gi_wp2
        refine bodyPost_ret (results_none rfl _ _ _) rfl ?_
        exact ⟨⟨_, rfl⟩, .inr ⟨_, ⟨k + 1, by omega, (fup_succ hlt).symm⟩, hJx3⟩⟩
    · obtain rfl : k = n := by omega
      gi_wp2
      go_end0
      exact ⟨⟨_, rfl⟩, .inl ⟨_, rfl, hJs⟩⟩
set_option maxRecDepth 100000 in
set_option maxHeartbeats 4000000 in
theorem edges1_out (m l Bv : Nat) (A : Option Addr) (n c : Nat) (hn : n ≤ maxLen) (hin : ¬ inP n) {J : World → Prop} (W : World) (hB : Bx W Bv #[.slice A n c] 29) (h0 : J W) :
    CallsIn Fence.wide m Tryz.prog 175 #[.func (.yield l) #[] #[], .pointer (some ⟨Bv, 0, none⟩)] W fun e W' => (∃ v, e = .returned v) ∧ J W' := by
  have bc := hB.cell 0 (v := .slice A n c) rfl
  clear hB
  unfold inP at hin
  rcases (by omega : n < 3 ∨ (3 ≤ n ∧ 64 < n)) with h | ⟨h2, h⟩
  · have q1 : (n : Int) < 3 := by omega
    refine callsIn_of_wp Tryz.func175 rfl trivial ?_ rfl
    simp only [Tryz.ntmps175, List.size_toArray, List.length_cons, List.length_nil, Nat.reduceAdd, Nat.reduceSub, Array.replicate_succ, Array.replicate_zero, List.push_toArray, List.append_toArray, List.nil_append, List.cons_append]
    gi_wp2
    refine bodyPost_ret (results_none rfl _ _ _) rfl ?_
    exact ⟨⟨_, rfl⟩, h0⟩
  · have q1 : ¬ ((n : Int) < 3) := by omega
    have q2 : (64 : Int) < n := by omega
    refine callsIn_of_wp Tryz.func175 rfl trivial ?_ rfl
    simp only [Tryz.ntmps175, List.size_toArray, List.length_cons, List.length_nil, Nat.reduceAdd, Nat.reduceSub, Array.replicate_succ, Array.replicate_zero, List.push_toArray, List.append_toArray, List.nil_append, List.cons_append]
    gi_wp2
    refine bodyPost_ret (results_none rfl _ _ _) rfl ?_
    exact ⟨⟨_, rfl⟩, h0⟩
theorem grownBy_dr (W : World) : W.grownBy W.drew none := ⟨rfl, rfl, rfl, Nat.le_refl _, fun _ _ _ => rfl⟩
/-- the edges that come -/
def eds (n : Nat) : List (Fin n) := if inP n then fup n n else []
theorem edges_stops (m Bv : Nat) (hm : 1 ≤ m) (r : World) (A : Option Addr) (n c : Nat) (f g : Nat → Int) (hp : Pts r A n c f g) (w : World) (hb : Below r.heap.size r w) (hB : Bx w Bv #[.slice A n c] 29) :
    SeqStopsK Fence.wide m Tryz.prog 175 #[.pointer (some ⟨Bv, 0, none⟩)] (fun x : Fin n => #[edgeV f g n x]) (KpE r.heap.size Bv) (fun xs => xs = eds n) (fun _ => True) n w := fun l J Jx W hW hJ _ hY h0 => by
  have hbW := hb.trans (hW.mono hb.size)
  have hBW := hB.below hW (Nat.le_refl _)
  by_cases hin : inP n
  · refine (edges1_in m l Bv hm r A n c f g hp hin J Jx (fun s W h => hJ s W _ none h (grownBy_dr W) (by simp)) hY W hbW hBW h0).mono ?_
    rintro e W' ⟨he, ⟨ys, rfl, hj⟩ | ⟨pre, _, hj⟩⟩
    · exact ⟨he, .inl ⟨_, by rw [eds, if_pos hin], hj⟩⟩
    · exact ⟨he, .inr ⟨_, trivial, hj⟩⟩
  · refine (edges1_out m l Bv A n c (Nat.le_trans hp.cap hp.max) hin W hBW (J := J []) h0).mono ?_
    rintro e W' ⟨he, hj⟩
    exact ⟨he, .inl ⟨[], by rw [eds, if_neg hin], hj⟩⟩
theorem polygon_edges (A : Option Addr) (n c : Nat) (w : World) : Calls Tryz.prog 172 #[.slice A n c] w fun e w' => e = .returned (.func (.func 175) #[] #[.pointer (some ⟨w.heap.size, 0, none⟩)]) ∧ w' = w.alloc (.cells #[.slice A n c] 29) := by
  go_enter Tryz.func172, Tryz.ntmps172
  go_wp2
  go_ret
  exact ⟨rfl, rfl⟩
end Go.Proofs.YtjdiilkljgljkaaGreatDoor
namespace Go.Proofs.YtjdiilkljgljkaaGreatDoor
set_option linter.unusedVariables false
set_option linter.unusedSimpArgs false
open Go.RowKit


theorem s4 : Dd.S 4 = 18446744073709551616 := rfl
set_option maxHeartbeats 1000000 in
theorem ref3_Int (x : Int) (hx : Wd.IsI x) (w : World) :
    Calls Tryz.prog 59 #[.int .i64 x] w fun e w' => (∃ A2 k c2, e = .returned (.agg #[.int .i64 (sg x), .slice A2 k c2]) ∧ k ≤ 4 ∧ Nm w' A2 k c2 x) ∧ Below w.heap.size w w' := by
  obtain ⟨i0, hi0, hz0, hz1, hz2⟩ := info_parts info_int
  obtain ⟨p, hp⟩ : ∃ p : Int, p = x.natAbs := ⟨_, rfl⟩
  have hf4 : Dd.Fits 4 p := by unfold Dd.Fits; rw [s4]; unfold Wd.IsI at hx; omega
  have hb1 : Below w.heap.size w (w.alloc (.cells #[.int .i64 0, .slice none 0 0] 41)) := (Below.refl w.heap.size w).alloc (Nat.le_refl _) _
  have hbox := heap_alloc_new w (.cells #[.int .i64 0, .slice none 0 0] 41)
  have hsz : w.heap.size < (w.alloc (.cells #[.int .i64 0, .slice none 0 0] 41)).heap.size := by simp
  obtain ⟨w1, hw1⟩ : ∃ w1, w1 = w.alloc (.cells #[.int .i64 0, .slice none 0 0] 41) := ⟨_, rfl⟩
  rw [← hw1] at hb1 hbox hsz
  have HW := Lib.hid hw1; have HX := Lib.hid hbox; have HB1 := Lib.hid hb1; have HF := Lib.hid hf4; have HP := Lib.hid hp
  have hI := hx
  unfold Wd.IsI at hI
  have e1 : x < 0 → IntKind.u64.wrap (-IntKind.u64.wrap x) = p := by intro h; rw [Wd.wrapU, Wd.wrapU]; unfold Wd.lo; omega
  have e2 : ¬ x < 0 → x = p := by intro h; omega
  have hp0 : 0 ≤ p ∧ p ≤ 9223372036854775808 := by omega
  have E1 := Lib.hid e1; have E2 := Lib.hid e2
  clear hbox hb1 hf4 e1 e2 hx hw1 hp
  by_cases hneg : x < 0
  all_goals
    go_enter Tryz.func59, Tryz.ntmps59
    go_wp2_with fail
    first | rw [E1.out hneg] | skip
    rw [← HW.out]
    go_loopw [3, 5] (fun u v wr => ∃ j : Nat, j ≤ 4 ∧ u = .int .u64 (Dd.qt p j) ∧ wr.ownsRow w1.heap.size 3 1 v j (row .i64 (Dd.lmb p) j) ∧ Below w1.heap.size w1 wr) (fun u _ _ => (intOf u).toNat)
    case atStart => exact ⟨0, Nat.zero_le _, (by rw [Dd.qt_zero]; try rw [← E2.out (by omega)]), World.ownsRow_nil _ _ _ _, Below.refl _ _⟩
    case round =>
      obtain ⟨j, hj, rfl, hown, hbr⟩ := hrel
      have HOW := Lib.hid hown; have HBR := Lib.hid hbr
      clear hown hbr
      have hq0 := Int.ediv_nonneg hp0.1 (Int.le_of_lt (Dd.S_pos j))
      have hqe : 0 ≤ Dd.qt p j ∧ Dd.qt p j ≤ 9223372036854775808 := by
        have h1 := Int.ediv_le_self (b := Dd.S j) hp0.1
        unfold Dd.qt; omega
      have hl : Dd.lmb p j = Dd.qt p j % 65536 := rfl
      have HL := Lib.hid hl; clear hl hq0
      by_cases hz : 0 < Dd.qt p j
      · have hj3 : j < 4 := by
          rcases (by omega : j < 4 ∨ j = 4) with h | h
          · exact h
          · subst h; unfold Dd.qt at hz; rw [Int.ediv_eq_zero_of_lt HF.out.1 HF.out.2] at hz; omega
        have hqs := Dd.qt_succ p j
        have HQ := Lib.hid hqs; clear hqs
        go_wp2_with (at_builtin; refine wpList_append_own _ rfl _ _ 39 rfl w1.heap.size 3 i0 (.int .i64 0) 1 8 Tryz.underlying39 hi0 hz0 hz1 hz2 rfl (by decide) _ _ _ rfl (HOW.out.alloc _) ⟨wr.heap.size, 0, none⟩ 1 1 [.int .i64 (Dd.qt p j % 65536)] rfl rfl (cells_one_new _ _ _) (one_oneCell _ _) (by unfold maxLen; omega) (by omega) (by have := HBR.out.size; simp; omega) ?_)
        intro v' w2 hown2 hgrow _
        have hb3 : Below w1.heap.size w1 w2 := (HBR.out.alloc HBR.out.size _).grown hgrow (by have := HBR.out.size; simp; omega) (own_block_le HOW.out)
        have H3 := Lib.hid (own_push hown2 HL.out.symm); have B3 := Lib.hid hb3
        clear hown2 hgrow hb3
        go_wp2_with fail
        go_roundw
        case rel => exact ⟨j + 1, by omega, by rw [HQ.out], H3.out, B3.out⟩
        case measure => simp [intOf]; omega
      · have hfj : Dd.Fits j p := ⟨hp0.1, by
          have h1 := Int.lt_ediv_add_one_mul_self p (Dd.S_pos j)
          unfold Dd.qt at hqe hz
          rw [show p / Dd.S j = 0 from by omega] at h1; omega⟩
        obtain ⟨A2, c2, rfl, hsl⟩ := Sl.of_own HOW.out
        have HS := Lib.hid hsl; have HTY := Lib.hid (Ty.of_own HOW.out); have HFJ := Lib.hid hfj
        clear hsl hfj
        go_wp2_with fail
        refine (ref3_make16 _ A2 j c2 p x _ HS.out HFJ.out HP.out.symm (fun _ => by unfold sg; first | rw [Int.sign_eq_neg_one_of_neg hneg] | rw [Int.sign_eq_one_of_pos (by omega)]) HTY.out).mono ?_
        rintro e w6 ⟨⟨A3, k3, c3, rfl, hk3, hnm⟩, hb6⟩
        have hb7 : Below w1.heap.size w1 w6 := HBR.out.trans (hb6.mono HBR.out.size)
        have hr2 : w6.heap[w.heap.size]? = some (.cells #[.int .i64 0, .slice none 0 0] 41 (0, 0)) := (hb7.block w.heap.size hsz).trans HX.out
        have q0 : w6.cell? ⟨w.heap.size, 0, none⟩ = some (.int .i64 0) := by simp [World.cell?, hr2]
        have q1 : w6.cell? ⟨w.heap.size, 1, none⟩ = some (.slice none 0 0) := by simp [World.cell?, hr2]
        have q2 : w6.frozen? ⟨w.heap.size, 0, none⟩ = false := by simp [World.frozen?, hr2]
        have q3 : w6.frozen? ⟨w.heap.size, 1, none⟩ = false := by simp [World.frozen?, hr2]
        have HN := Lib.hid hnm; have HR := Lib.hid hr2; have B3 := Lib.hid (HB1.out.trans (hb7.mono HB1.out.size))
        clear hnm hr2 hb7 hb6
        go_wp2_with fail
        refine bodyPost_ret (v := .agg #[.int .i64 (sg x), .slice A3 k3 c3]) (by simp [results, Tryz.results59, go_sem, q0, q1]) rfl ⟨⟨A3, k3, c3, rfl, by omega, ?_⟩, ?_⟩
        · exact (HN.out.set_ HR.out (by decide)).set_ (heap_setCell_same w6 w.heap.size 0 _ _ _ HR.out) (by decide)
        · exact (B3.out.setCell (p := ⟨w.heap.size, 0, none⟩) (Nat.le_refl _) _).setCell (p := ⟨w.heap.size, 1, none⟩) (Nat.le_refl _) _
end Go.Proofs.YtjdiilkljgljkaaGreatDoor
namespace Go.Proofs.YtjdiilkljgljkaaGreatDoor
set_option linter.unusedVariables false
set_option linter.unusedSimpArgs false
open Go.RowKit

namespace Dd
theorem fits_prt {k m : Nat} {p q : Int} (hp : 0 ≤ p) (hq : Fits m q) : Fits (k + m) (prt p q k) := by
  have h1 := S_pos k
  have e : p - qt p k * S k = p % S k := by
    have := Int.mul_ediv_add_emod p (S k)
    unfold qt; rw [Int.mul_comm]; omega
  have h2 := Int.emod_nonneg p (Int.ne_of_gt h1)
  have h3 := Int.emod_lt_of_pos p h1
  unfold Fits at *
  unfold prt
  rw [e, S_add]
  refine ⟨Int.mul_nonneg h2 hq.1, ?_⟩
  have h4 : p % S k * q ≤ S k * q := Int.mul_le_mul_of_nonneg_right (Int.le_of_lt h3) hq.1
  have h5 : S k * q < S k * S m := Int.mul_lt_mul_of_pos_left hq.2 h1
  omega
theorem prt_whole {n : Nat} {p q : Int} (hp : Fits n p) : prt p q n = p * q := by
  unfold prt qt
  rw [Int.ediv_eq_zero_of_lt hp.1 hp.2, Int.zero_mul, Int.sub_zero]
theorem kar_last {k m : Nat} {p q : Int} (hp : 0 ≤ p) (hq : Fits m q) : kar p q k m = lmb (prt p q (k + 1)) (k + m) := by
  have h1 := fits_prt (k := k) hp hq
  have h2 := fits_prt (k := k + 1) hp hq
  rw [show k + 1 + m = k + m + 1 from by omega] at h2
  have h3 := S_pos (k + m)
  unfold Fits at h2
  rw [S_succ] at h2
  have e3 : 0 ≤ qt (prt p q (k + 1)) (k + m) ∧ qt (prt p q (k + 1)) (k + m) < 65536 := ⟨Int.ediv_nonneg h2.1 (Int.le_of_lt h3), Int.ediv_lt_of_lt_mul h3 (by omega)⟩
  have e1 : qt (prt p q k) (k + m) = 0 := Int.ediv_eq_zero_of_lt h1.1 h1.2
  have e2 : qt q m = 0 := Int.ediv_eq_zero_of_lt hq.1 hq.2
  unfold kar lmb
  rw [e1, e2, Int.mul_zero]
  omega
def mid (x y : Int) (i j : Nat) : Nat → Int := fun k => if k < i + j then lmb (prt x y (i + 1)) k else lmb (prt x y i) k
theorem mid_zero (x y : Int) (i k : Nat) : lmb (prt x y i) k = mid x y i 0 k := by
  unfold mid; split
  · rw [prt_low x y (by omega)]
  · rfl
theorem mid_at (x y : Int) (i j : Nat) : mid x y i j (i + j) = lmb (prt x y i) (i + j) := by unfold mid; rw [if_neg (by omega)]
theorem mid_next (x y : Int) (i j : Nat) : lmb (prt x y (i + 1)) (i + j) = mid x y i (j + 1) (i + j) := by unfold mid; rw [if_pos (by omega)]
theorem mid_other (x y : Int) (i j k : Nat) (h : k ≠ i + j) : mid x y i j k = mid x y i (j + 1) k := by
  unfold mid
  by_cases h1 : k < i + j
  · rw [if_pos h1, if_pos (by omega)]
  · rw [if_neg h1, if_neg (by omega)]
theorem mid_rest {p q : Int} {i m k : Nat} (hp : 0 ≤ p) (hq : Fits m q) (h : k ≠ i + m) : mid p q i m k = lmb (prt p q (i + 1)) k := by
  unfold mid
  by_cases h1 : k < i + m
  · rw [if_pos h1]
  · rw [if_neg h1, lmb_beyond (fits_prt (k := i) hp hq) (by omega), lmb_beyond (fits_prt (k := i + 1) hp hq) (by omega)]
theorem kar_step2 (x y : Int) (i j : Nat) : (lmb (prt x y i) (i + j) + lmb x i * lmb y j + kar x y i j) % 65536 = lmb (prt x y (i + 1)) (i + j) ∧
    (lmb (prt x y i) (i + j) + lmb x i * lmb y j + kar x y i j) / 65536 = kar x y i (j + 1) := by
  have hk := isW_kar x y i j
  have h := kar_step x y i j hk
  have hp := isW_lt_mul (isW_lmb x i) (isW_lmb y j)
  have h1 := lmb_range (prt x y i) (i + j)
  have hk2 := h.2.2
  rw [Int.add_comm (lmb (prt x y i) (i + j))]
  refine ⟨h.1, ?_⟩
  have h2 := h.2.1
  unfold hi at h2
  unfold IsW at hk
  generalize lmb x i * lmb y j = u at *
  omega
end Dd

theorem below_drewN9 {B : Nat} {a w : World} (h : Below B a w) (n : Nat) : Below B a (w.drewN n) := ⟨h.os, h.tape, h.output, h.size, h.block⟩
theorem sg_mul (x y : Int) : sg x * sg y = sg (x * y) := by unfold sg; rw [Int.sign_mul]

set_option maxRecDepth 100000 in
set_option maxHeartbeats 4000000 in
theorem ref3_Mul (A A' : Option Addr) (n c m c' : Nat) (x y : Int) (w : World) (ha : Nm w A n c x) (hb : Nm w A' m c' y) (hn : n ≤ 50000) (hm : m ≤ 49999) :
    Calls Tryz.prog 32 #[.agg #[.int .i64 (sg x), .slice A n c], .agg #[.int .i64 (sg y), .slice A' m c']] w fun e w' => (∃ A2 k c2, e = .returned (.agg #[.int .i64 (sg (x * y)), .slice A2 k c2]) ∧ k ≤ n + m ∧ Nm w' A2 k c2 (x * y)) ∧ Below w.heap.size w w' := by
  obtain ⟨i0, hi0, hz0, hz1, hz2⟩ := info_parts info_int
  have hrx := sign_range x; have hry := sign_range y
  have hsm := sg_mul x y
  have hrs := sign_range (x * y)
  rw [← hsm] at hrs
  have HSM := Lib.hid hsm
  have HA := Lib.hid ha; have HB := Lib.hid hb
  have hb3 : ∀ (o1 o2 o3 : Obj), Below w.heap.size w (((w.alloc o1).alloc o2).alloc o3) := fun o1 o2 o3 => (((Below.refl w.heap.size w).alloc (Nat.le_refl _) _).alloc (by simp) _).alloc (by simp; omega) _
  have HB3 := Lib.hid hb3
  have hnm : ((x * y).natAbs : Int) = (x.natAbs : Int) * y.natAbs := by rw [Int.natAbs_mul]; exact Int.natCast_mul _ _
  obtain ⟨p, hp⟩ : ∃ p : Int, p = x.natAbs := ⟨_, rfl⟩
  obtain ⟨q, hq⟩ : ∃ q : Int, q = y.natAbs := ⟨_, rfl⟩
  have hfp : Dd.Dg n p := by rw [hp]; exact ha.2.1
  have hfq : Dd.Dg m q := by rw [hq]; exact hb.2.1
  rw [← hp, ← hq] at hnm
  have hmaxa := ha.1.max; have hmaxb := hb.1.max; have hcapa := ha.1.cap; have hcapb := hb.1.cap
  unfold maxLen at hmaxa hmaxb
  have HP := Lib.hid hp; have HQ := Lib.hid hq; have HNM := Lib.hid hnm; have HFP := Lib.hid hfp; have HFQ := Lib.hid hfq
  clear ha hb hb3 hsm hp hq hnm hfp hfq
  go_enter Tryz.func32, Tryz.ntmps32
  go_wp2_with fail
  have bx := Box.new w (.int .i64 (sg x)) (.slice A n c) (.int .i64 (sg y)) (.slice A' m c')
  have hbw := HB3.out (.cells #[.int .i64 (sg x), .slice A n c] 41) (.cells #[.int .i64 (sg y), .slice A' m c'] 41) (.cells #[.int .i64 0, .slice none 0 0] 41)
  generalize (((w.alloc (.cells #[.int .i64 (sg x), .slice A n c] 41)).alloc (.cells #[.int .i64 (sg y), .slice A' m c'] 41)).alloc (.cells #[.int .i64 0, .slice none 0 0] 41)) = w3 at *
  have BX := Lib.hid bx; have BW := Lib.hid hbw
  have NA := Lib.hid (HA.out.below hbw (Nat.le_refl _)); have NB := Lib.hid (HB.out.below hbw (Nat.le_refl _))
  clear bx hbw HA HB
  go_loopw [5, 6] (fun v i wr => ∃ k : Nat, k ≤ n + m ∧ i = .int .i64 k ∧ wr.ownsRow w3.heap.size 3 1 v k (row .i64 (Dd.lmb 0) k) ∧ Below w3.heap.size w3 wr) (fun _ i _ => n + m - (intOf i).toNat)
  case atStart => exact ⟨0, Nat.zero_le _, rfl, World.ownsRow_nil _ _ _ _, Below.refl _ _⟩
  case round =>
    obtain ⟨k, hk, rfl, hown, hbr⟩ := hrel
    have bxr := BX.out.below hbr (Nat.le_refl _)
    have c1 := bxr.c1; have d1 := bxr.d1
    have HOW := Lib.hid hown; have HBR := Lib.hid hbr
    clear hown hbr bxr
    by_cases hlt : k < n + m
    · go_wp2_with (at_builtin; refine wpList_append_own _ rfl _ _ 39 rfl w3.heap.size 3 i0 (.int .i64 0) 1 8 Tryz.underlying39 hi0 hz0 hz1 hz2 rfl (by decide) _ _ _ rfl (HOW.out.alloc _) ⟨wr.heap.size, 0, none⟩ 1 1 [.int .i64 0] rfl rfl (cells_one_new _ _ _) (one_oneCell _ _) (by unfold maxLen; omega) (by omega) (by have := HBR.out.size; simp; omega) ?_)
      intro v' w4 hown2 hgrow _
      have hb3 : Below w3.heap.size w3 w4 := (HBR.out.alloc HBR.out.size _).grown hgrow (by have := HBR.out.size; simp; omega) (own_block_le HOW.out)
      have H3 := Lib.hid (own_push hown2 (Dd.lmb_zero k).symm); have B3 := Lib.hid hb3
      clear hown2 hgrow hb3 c1 d1
      go_wp2_with fail
      go_roundw
      case rel => exact ⟨k + 1, by omega, by go_num, H3.out, B3.out⟩
      case measure => simp [intOf]; omega
    · obtain rfl : k = n + m := by omega
      obtain ⟨wo, rfl⟩ : ∃ wo : World, wo = wr := ⟨_, rfl⟩
      go_wp2_with fail
      go_loopw [7] (fun i wr => ∃ k : Nat, k ≤ n ∧ i = .int .i64 k ∧ wr.ownsRow w3.heap.size 3 1 u5 (n + m) (row .i64 (Dd.lmb (Dd.prt p q k)) (n + m)) ∧ Below w3.heap.size w3 wr) (fun i _ => n - (intOf i).toNat)
      case atStart => exact ⟨0, Nat.zero_le _, rfl, by rw [Dd.prt_zero]; exact HOW.out, HBR.out⟩
      case round =>
        clear HOW HBR c1 d1
        obtain ⟨k, hk, rfl, hown, hbr⟩ := hrel
        have bxr := BX.out.below hbr (Nat.le_refl _)
        have c1 := bxr.c1; have d1 := bxr.d1
        have HOW := Lib.hid hown; have HBR := Lib.hid hbr; have BXR := Lib.hid bxr
        clear hown hbr bxr
        by_cases hlt : k < n
        · obtain ⟨g, cg, hv, hg1, hg2⟩ := HOW.out.form (by omega)
          subst hv
          have hcg := (Sl.of_own HOW.out)
          have hcc : n + m ≤ cg ∧ cg ≤ 9223372036854775807 := by
            obtain ⟨A9, c9, hv9, hs9⟩ := hcg
            injection hv9 with _ _ e9
            subst e9
            exact ⟨hs9.cap, by have := hs9.max; unfold maxLen at this; omega⟩
          clear hcg hg2
          go_wp2_with fail
          obtain ⟨wo, rfl⟩ : ∃ wo : World, wo = wr := ⟨_, rfl⟩
          go_loopw [8, 9] (fun cr j wr => ∃ l : Nat, l ≤ m ∧ j = .int .i64 l ∧ cr = .int .i64 (Dd.kar p q k l) ∧ wr.ownsRow w3.heap.size 3 1 (.slice (some ⟨g, 0, none⟩) (n + m) cg) (n + m) (row .i64 (Dd.mid p q k l) (n + m)) ∧ Below w3.heap.size w3 wr) (fun _ j _ => m - (intOf j).toNat)
          case atStart => exact ⟨0, Nat.zero_le _, rfl, by rw [Dd.kar_zero], own_congr HOW.out (fun i _ => Dd.mid_zero p q k i), HBR.out⟩
          case round =>
            clear HOW HBR c1 d1 BXR
            obtain ⟨l, hl, rfl, rfl, hown, hbr⟩ := hrel
            have bxr := BX.out.below hbr (Nat.le_refl _)
            have c1 := bxr.c1; have d1 := bxr.d1
            have hna := NA.out.below hbr (Nat.le_refl _); have hnb := NB.out.below hbr (Nat.le_refl _)
            have hkr := Dd.isW_kar p q k l
            unfold Dd.IsW at hkr
            by_cases hlt2 : l < m
            · obtain ⟨ab, ao, rfl, halt, hac⟩ := hna.1.at_ (by omega)
              obtain ⟨bb, bo, rfl, hblt, hbc⟩ := hnb.1.at_ (by omega)
              have c2 : wr.cell? ⟨ab, ao + k, none⟩ = some (.int .i64 (Dd.lmb p k)) := by rw [HP.out]; exact hac k hlt
              have c3 : wr.cell? ⟨bb, bo + l, none⟩ = some (.int .i64 (Dd.lmb q l)) := by rw [HQ.out]; exact hbc l hlt2
              have c4 : wr.cell? ⟨g, k + l, none⟩ = some (.int .i64 (Dd.lmb (Dd.prt p q k) (k + l))) := by rw [← Dd.mid_at p q k l]; exact own_cell hown (by omega)
              have c5 : wr.frozen? ⟨g, k + l, none⟩ = false := World.ownsRow.frozenAt hown (k + l)
              have hst := Dd.kar_step2 p q k l
              have hpr := Dd.isW_lt_mul (Dd.isW_lmb p k) (Dd.isW_lmb q l)
              have r1 := Dd.lmb_range (Dd.prt p q k) (k + l)
              have r2 := Dd.lmb_range p k; have r3 := Dd.lmb_range q l
              have HOW := Lib.hid hown; have HBR := Lib.hid hbr; have HST := Lib.hid hst
              clear hown hbr bxr hna hnb hac hbc hst
              have s4 : (k : Int) + (l : Int) < (n : Int) + (m : Int) := by omega
              have s2 : (0 : Int) ≤ (k : Int) + (l : Int) := by omega
              go_wp2_with fail
              have s1 : IntKind.i64.wrap ((k : Int) + (l : Int)) = (k : Int) + (l : Int) := IntWalk.i64_in _ (by omega)
              have s3 : ((k : Int) + (l : Int)).toNat = k + l := by omega
              go_quiet (fail)
              clear s1 s3
              go_wp2_with fail
              go_roundw
              case rel => exact ⟨l + 1, by omega, by go_num, by rw [HST.out.2], own_set (own_drewN HOW.out nq) (by rw [HST.out.1]; exact Dd.mid_next p q k l) (fun i _ hne => Dd.mid_other p q k l i hne), (below_drewN9 HBR.out nq).setCell (p := ⟨g, k + l, none⟩) hg1 _⟩
              case measure => simp [intOf]; omega
            · obtain rfl : l = m := by omega
              have hz : Dd.lmb (Dd.prt p q k) (k + l) = 0 := Dd.lmb_beyond (Dd.fits_prt (k := k) HFP.out.1.1 HFQ.out.1) (Nat.le_refl _)
              have c4 : wr.cell? ⟨g, k + l, none⟩ = some (.int .i64 0) := by rw [← hz, ← Dd.mid_at p q k l]; exact own_cell hown (by omega)
              have c5 : wr.frozen? ⟨g, k + l, none⟩ = false := World.ownsRow.frozenAt hown (k + l)
              have hkl := Dd.kar_last (k := k) HFP.out.1.1 HFQ.out.1
              have HOW := Lib.hid hown; have HBR := Lib.hid hbr; have HKL := Lib.hid hkl
              clear hown hbr bxr hna hnb hz hkl
              go_wp2_with fail
              go_roundw
              case rel => exact ⟨k + 1, by omega, by go_num, own_set HOW.out HKL.out (fun i _ hne => Dd.mid_rest HFP.out.1.1 HFQ.out.1 hne), HBR.out.setCell (p := ⟨g, k + l, none⟩) hg1 _⟩
              case measure => simp [intOf]; omega
        · obtain rfl : k = n := by omega
          have hown := HOW.out
          rw [Dd.prt_whole HFP.out.1] at hown
          have hfit : Dd.Fits (k + m) (p * q) := by
            have := Dd.fits_prt (k := k) HFP.out.1.1 HFQ.out.1
            rw [Dd.prt_whole HFP.out.1] at this; exact this
          obtain ⟨A9, c9, hv9, hs9⟩ := Sl.of_own hown
          subst hv9
          have HS9 := Lib.hid hs9; have HT9 := Lib.hid (Ty.of_own hown); have HFT := Lib.hid hfit
          clear hown hs9 hfit HOW
          have c0 := BXR.out.c0; have d0 := BXR.out.d0
          have s1 : IntKind.i64.wrap (sg x * sg y) = sg x * sg y := IntWalk.i64_in _ (by omega)
          go_wp2_with fail
          refine (ref3_make16 _ A9 (k + m) c9 (p * q) (x * y) _ HS9.out HFT.out HNM.out (fun _ => HSM.out) HT9.out).mono ?_
          rintro e w6 ⟨⟨A3, k3, c3, rfl, hk3, hnm⟩, hb6⟩
          have hb7 : Below w3.heap.size w3 w6 := HBR.out.trans (hb6.mono HBR.out.size)
          have B6 := Lib.hid (BX.out.below hb7 (Nat.le_refl _))
          have q0 := B6.out.cell 0; have q1 := B6.out.cell 1; have q2 := B6.out.free 0; have q3 := B6.out.free 1
          have N6 := Lib.hid hnm; have D6 := Lib.hid (BW.out.trans (hb7.mono BW.out.size))
          clear hnm hb7 hb6 s1 c0 d0 c1 d1
          go_wp2_with fail
          refine bodyPost_ret (v := .agg #[.int .i64 (sg (x * y)), .slice A3 k3 c3]) (by simp [results, Tryz.results32, go_sem, q0, q1]) rfl ⟨⟨A3, k3, c3, rfl, hk3, B6.out.set2 N6.out⟩, ?_⟩
          exact (D6.out.setCell (p := ⟨w.heap.size + 1 + 1, 0, none⟩) (by simp; omega) _).setCell (p := ⟨w.heap.size + 1 + 1, 1, none⟩) (by simp; omega) _
end Go.Proofs.YtjdiilkljgljkaaGreatDoor
namespace Go.Proofs.YtjdiilkljgljkaaGreatDoor
set_option linter.unusedVariables false
set_option linter.unusedSimpArgs false
open Go.RowKit Wd

theorem det_ref (ax ay bx b_ cx cy : Int) : bx * cy - b_ * cx - (ax * cy - ay * cx) + (ax * b_ - ay * bx) = det ax ay bx b_ cx cy := by unfold det; grind
theorem ref3_AddZ (A A' : Option Addr) (n c m c' : Nat) (x y z : Int) (hz : x + y = z) (w : World) (ha : Nm w A n c x) (hb : Nm w A' m c' y) (hn : n ≤ 99999) (hm : m ≤ 99999) :
    Calls Tryz.prog 34 #[.agg #[.int .i64 (sg x), .slice A n c], .agg #[.int .i64 (sg y), .slice A' m c']] w fun e w' => (∃ A2 k c2, e = .returned (.agg #[.int .i64 (sg z), .slice A2 k c2]) ∧ k ≤ max n m + 1 ∧ Nm w' A2 k c2 z) ∧ Below w.heap.size w w' := by
  subst hz; exact ref3_Add A A' n c m c' x y w ha hb hn hm
set_option maxHeartbeats 1000000 in
theorem ref6_product (a b : Int) (ha : IsI a) (hb : IsI b) (w : World) :
    Calls Tryz.prog 92 #[.int .i64 a, .int .i64 b] w fun e w' => (∃ A k c, e = .returned (.agg #[.int .i64 (sg (a * b)), .slice A k c]) ∧ k ≤ 8 ∧ Nm w' A k c (a * b)) ∧ Below w.heap.size w w' := by
  have HB0 := Lib.hid (Below.refl w.heap.size w)
  go_enter Tryz.func92, Tryz.ntmps92
  go_wp2_with fail
  have B : Below w.heap.size w (w.alloc (.cells #[.int .i64 0, .slice none 0 0] 41)) := (HB0.out.alloc HB0.out.size _)
  have C : Below w.heap.size w (w.alloc (.cells #[.int .i64 0, .slice none 0 0] 41)) := ((Below.refl w.heap.size w).alloc (Nat.le_refl _) _)
  have X0 : Bx (w.alloc (.cells #[.int .i64 0, .slice none 0 0] 41)) (w.heap.size) #[.int .i64 0, .slice none 0 0] 41 := by simpa using (Bx.new w #[.int .i64 0, .slice none 0 0] 41)
  have HB1 := Lib.hid B
  have FR_1 := Lib.hid X0
  clear B C X0 HB0 
  generalize (w.alloc (.cells #[.int .i64 0, .slice none 0 0] 41)) = w1 at *
  skip
  refine (ref3_Int a ha _).mono ?_
  rintro e w2 ⟨⟨A1, k1, c1, rfl, b1, N1⟩, B⟩
  have HB2 := Lib.hid (HB1.out.trans (B.mono HB1.out.size))
  have FR_2 := Lib.hid (FR_1.out.below B (Nat.le_refl _))
  have FA_2 := Lib.hid N1
  clear B N1 HB1 FR_1
  go_wp2_with fail
  refine (ref3_Int b hb _).mono ?_
  rintro e w3 ⟨⟨A2, k2, c2, rfl, b2, N2⟩, B⟩
  have HB3 := Lib.hid (HB2.out.trans (B.mono HB2.out.size))
  have FR_3 := Lib.hid (FR_2.out.below B (Nat.le_refl _))
  have FA_3 := Lib.hid (FA_2.out.below B (Nat.le_refl _))
  have FB_3 := Lib.hid N2
  clear B N2 HB2 FR_2 FA_2
  go_wp2_with fail
  refine (ref3_Mul _ _ _ _ _ _ _ _ _ FA_3.out FB_3.out (by omega) (by omega)).mono ?_
  rintro e w4 ⟨⟨A3, k3, c3, rfl, b3, N3⟩, B⟩
  have HB4 := Lib.hid (HB3.out.trans (B.mono HB3.out.size))
  have FR_4 := Lib.hid (FR_3.out.below B (Nat.le_refl _))
  have FA_4 := Lib.hid (FA_3.out.below B (Nat.le_refl _))
  have FB_4 := Lib.hid (FB_3.out.below B (Nat.le_refl _))
  have FC_4 := Lib.hid N3
  clear B N3 HB3 FR_3 FA_3 FB_3
  have q0 := FR_4.out.cell 0 (v := .int .i64 0) rfl; have q1 := FR_4.out.cell 1 (v := .slice none 0 0) rfl; have z0 := FR_4.out.free 0; have z1 := FR_4.out.free 1
  go_wp2_with fail
  have r0 := FR_4.out
  have r1 := r0.set 0 (.int .i64 (sg (a * b)))
  refine bodyPost_ret (v := .agg #[.int .i64 (sg (a * b)), .slice A3 k3 c3]) (by simp [results, Tryz.results92, go_sem, q0, q1]) rfl ⟨⟨A3, k3, c3, rfl, by omega, ((FC_4.out.setB r0 (by decide)).setB r1 (by decide))⟩, ?_⟩
  exact ((HB4.out.setCell (p := ⟨w.heap.size, 0, none⟩) (by simp <;> omega) _).setCell (p := ⟨w.heap.size, 1, none⟩) (by simp <;> omega) _)

set_option maxHeartbeats 1000000 in
theorem ref6_minor (ax ay bx b_ : Int) (h1 : IsI ax) (h2 : IsI ay) (h3 : IsI bx) (h4 : IsI b_) (w : World) :
    Calls Tryz.prog 57 #[.agg #[.int .i64 ax, .int .i64 ay], .agg #[.int .i64 bx, .int .i64 b_]] w fun e w' => (∃ A k c, e = .returned (.agg #[.int .i64 (sg (ax * b_ - ay * bx)), .slice A k c]) ∧ k ≤ 9 ∧ Nm w' A k c (ax * b_ - ay * bx)) ∧ Below w.heap.size w w' := by
  have HB0 := Lib.hid (Below.refl w.heap.size w)
  go_enter Tryz.func57, Tryz.ntmps57
  go_wp2_with fail
  have B : Below w.heap.size w (((w.alloc (.cells #[.int .i64 ax, .int .i64 ay] 23)).alloc (.cells #[.int .i64 bx, .int .i64 b_] 23)).alloc (.cells #[.int .i64 0, .slice none 0 0] 41)) := (((HB0.out.alloc HB0.out.size _).alloc (HB0.out.alloc HB0.out.size _).size _).alloc ((HB0.out.alloc HB0.out.size _).alloc (HB0.out.alloc HB0.out.size _).size _).size _)
  have C : Below w.heap.size w (((w.alloc (.cells #[.int .i64 ax, .int .i64 ay] 23)).alloc (.cells #[.int .i64 bx, .int .i64 b_] 23)).alloc (.cells #[.int .i64 0, .slice none 0 0] 41)) := ((((Below.refl w.heap.size w).alloc (Nat.le_refl _) _).alloc (by simp; try omega) _).alloc (by simp; try omega) _)
  have X0 : Bx (((w.alloc (.cells #[.int .i64 ax, .int .i64 ay] 23)).alloc (.cells #[.int .i64 bx, .int .i64 b_] 23)).alloc (.cells #[.int .i64 0, .slice none 0 0] 41)) (w.heap.size) #[.int .i64 ax, .int .i64 ay] 23 := by simpa using (((Bx.new w #[.int .i64 ax, .int .i64 ay] 23).alloc _).alloc _)
  have X1 : Bx (((w.alloc (.cells #[.int .i64 ax, .int .i64 ay] 23)).alloc (.cells #[.int .i64 bx, .int .i64 b_] 23)).alloc (.cells #[.int .i64 0, .slice none 0 0] 41)) (w.heap.size + 1) #[.int .i64 bx, .int .i64 b_] 23 := by simpa using ((Bx.new (w.alloc (.cells #[.int .i64 ax, .int .i64 ay] 23)) #[.int .i64 bx, .int .i64 b_] 23).alloc _)
  have X2 : Bx (((w.alloc (.cells #[.int .i64 ax, .int .i64 ay] 23)).alloc (.cells #[.int .i64 bx, .int .i64 b_] 23)).alloc (.cells #[.int .i64 0, .slice none 0 0] 41)) (w.heap.size + 1 + 1) #[.int .i64 0, .slice none 0 0] 41 := by simpa using (Bx.new ((w.alloc (.cells #[.int .i64 ax, .int .i64 ay] 23)).alloc (.cells #[.int .i64 bx, .int .i64 b_] 23)) #[.int .i64 0, .slice none 0 0] 41)
  have HB1 := Lib.hid B
  have FP_1 := Lib.hid X0
  have FQ_1 := Lib.hid X1
  have FR_1 := Lib.hid X2
  clear B C X0 X1 X2 HB0 
  generalize (((w.alloc (.cells #[.int .i64 ax, .int .i64 ay] 23)).alloc (.cells #[.int .i64 bx, .int .i64 b_] 23)).alloc (.cells #[.int .i64 0, .slice none 0 0] 41)) = w1 at *
  have RB1 := Lib.hid (below_drew0 w1)
  have QS1 := Lib.hid (show w1.cell? ⟨w.heap.size, 0, none⟩ = some (.int .i64 ax) ∧ w1.cell? ⟨w.heap.size, 1, none⟩ = some (.int .i64 ay) ∧ w1.cell? ⟨w.heap.size + 1, 0, none⟩ = some (.int .i64 bx) ∧ w1.cell? ⟨w.heap.size + 1, 1, none⟩ = some (.int .i64 b_) from ⟨FP_1.out.cell 0 (v := .int .i64 ax) rfl, FP_1.out.cell 1 (v := .int .i64 ay) rfl, FQ_1.out.cell 0 (v := .int .i64 bx) rfl, FQ_1.out.cell 1 (v := .int .i64 b_) rfl⟩)
  have QF1 := Lib.hid (show ∀ w', Below w1.heap.size w1 w' → w'.cell? ⟨w.heap.size, 0, none⟩ = some (.int .i64 ax) ∧ w'.cell? ⟨w.heap.size, 1, none⟩ = some (.int .i64 ay) ∧ w'.cell? ⟨w.heap.size + 1, 0, none⟩ = some (.int .i64 bx) ∧ w'.cell? ⟨w.heap.size + 1, 1, none⟩ = some (.int .i64 b_) from fun w' hb => ⟨(FP_1.out.below hb (Nat.le_refl _)).cell 0 (v := .int .i64 ax) rfl, (FP_1.out.below hb (Nat.le_refl _)).cell 1 (v := .int .i64 ay) rfl, (FQ_1.out.below hb (Nat.le_refl _)).cell 0 (v := .int .i64 bx) rfl, (FQ_1.out.below hb (Nat.le_refl _)).cell 1 (v := .int .i64 b_) rfl⟩)
  go_region_held3 (fun w' => w'.cell? ⟨w.heap.size, 0, none⟩ = some (.int .i64 ax) ∧ w'.cell? ⟨w.heap.size, 1, none⟩ = some (.int .i64 ay) ∧ w'.cell? ⟨w.heap.size + 1, 0, none⟩ = some (.int .i64 bx) ∧ w'.cell? ⟨w.heap.size + 1, 1, none⟩ = some (.int .i64 b_)) (first | with_reducible exact QF1.out _ RB4.out | with_reducible exact QF1.out _ RB3.out | with_reducible exact QF1.out _ RB2.out | with_reducible exact QS1.out | with_reducible exact QF1.out _ RB1.out | with_reducible exact ⟨keep_set (keep_set ((QF1.out _ RB4.out).1) (by simp <;> omega)) (by simp <;> omega), keep_set (keep_set ((QF1.out _ RB4.out).2.1) (by simp <;> omega)) (by simp <;> omega), keep_set (keep_set ((QF1.out _ RB4.out).2.2.1) (by simp <;> omega)) (by simp <;> omega), keep_set (keep_set ((QF1.out _ RB4.out).2.2.2) (by simp <;> omega)) (by simp <;> omega)⟩) (first
      | (go_at_call 35; have := RB3; clear this; refine (ref3_Sub P0 P1 p0 g0 p1 g1 _ _ _ RM0_3.out RM1_3.out (by omega) (by omega)).mono ?_; rintro e w4 ⟨⟨P2, p2, g2, rfl, b2, N2⟩, B⟩; have RB4 := Lib.hid (RB3.out.trans (B.mono RB3.out.size)); have RM0_4 := Lib.hid (RM0_3.out.below B (Nat.le_refl _)); have RM1_4 := Lib.hid (RM1_3.out.below B (Nat.le_refl _)); have RM2_4 := Lib.hid N2; clear B N2; have q0 := (FR_1.out.below RB4.out (Nat.le_refl _)).cell 0 (v := .int .i64 0) rfl; have q1 := (FR_1.out.below RB4.out (Nat.le_refl _)).cell 1 (v := .slice none 0 0) rfl; have z0 := (FR_1.out.below RB4.out (Nat.le_refl _)).free 0; have z1 := (FR_1.out.below RB4.out (Nat.le_refl _)).free 1)
      | (go_at_call 92; have := RB2; clear this; refine (ref6_product ay bx h2 h3 _).mono ?_; rintro e w3 ⟨⟨P1, p1, g1, rfl, b1, N1⟩, B⟩; have RB3 := Lib.hid (RB2.out.trans (B.mono RB2.out.size)); have RM0_3 := Lib.hid (RM0_2.out.below B (Nat.le_refl _)); have RM1_3 := Lib.hid N1; clear B N1)
      | (go_at_call 92; have := RB1; clear this; refine (ref6_product ax b_ h1 h4 _).mono ?_; rintro e w2 ⟨⟨P0, p0, g0, rfl, b0, N0⟩, B⟩; have RB2 := Lib.hid (RB1.out.trans (B.mono RB1.out.size)); have RM0_2 := Lib.hid N0; clear B N0))
  have FP_4 := Lib.hid (FP_1.out.below RB4.out (Nat.le_refl _))
  have FQ_4 := Lib.hid (FQ_1.out.below RB4.out (Nat.le_refl _))
  have FR_4 := Lib.hid (FR_1.out.below RB4.out (Nat.le_refl _))
  have HB4 := Lib.hid (HB1.out.trans (RB4.out.mono HB1.out.size))
  clear HB1 FP_1 FQ_1 FR_1
  go_wp2_with fail
  have r0 := FR_4.out
  have r1 := r0.set 0 (.int .i64 (sg (ax * b_ - ay * bx)))
  refine bodyPost_ret (v := .agg #[.int .i64 (sg (ax * b_ - ay * bx)), .slice P2 p2 g2]) (by simp [results, Tryz.results57, go_sem, q0, q1]) rfl ⟨⟨P2, p2, g2, rfl, by omega, ((RM2_4.out.setB r0 (by decide)).setB r1 (by decide))⟩, ?_⟩
  exact ((HB4.out.setCell (p := ⟨w.heap.size + 1 + 1, 0, none⟩) (by simp <;> omega) _).setCell (p := ⟨w.heap.size + 1 + 1, 1, none⟩) (by simp <;> omega) _)

set_option maxHeartbeats 1000000 in
theorem ref6_Value (ax ay bx b_ cx cy : Int) (hp : P3 ax ay bx b_ cx cy) (w : World) :
    Calls Tryz.prog 31 #[.agg #[.int .i64 ax, .int .i64 ay], .agg #[.int .i64 bx, .int .i64 b_], .agg #[.int .i64 cx, .int .i64 cy]] w fun e w' => (∃ A k c, e = .returned (.agg #[.int .i64 (sg (det ax ay bx b_ cx cy)), .slice A k c]) ∧ k ≤ 11 ∧ Nm w' A k c (det ax ay bx b_ cx cy)) ∧ Below w.heap.size w w' := by
  have HB0 := Lib.hid (Below.refl w.heap.size w)
  go_enter Tryz.func31, Tryz.ntmps31
  go_wp2_with fail
  have B : Below w.heap.size w ((((w.alloc (.cells #[.int .i64 ax, .int .i64 ay] 23)).alloc (.cells #[.int .i64 bx, .int .i64 b_] 23)).alloc (.cells #[.int .i64 cx, .int .i64 cy] 23)).alloc (.cells #[.int .i64 0, .slice none 0 0] 41)) := ((((HB0.out.alloc HB0.out.size _).alloc (HB0.out.alloc HB0.out.size _).size _).alloc ((HB0.out.alloc HB0.out.size _).alloc (HB0.out.alloc HB0.out.size _).size _).size _).alloc (((HB0.out.alloc HB0.out.size _).alloc (HB0.out.alloc HB0.out.size _).size _).alloc ((HB0.out.alloc HB0.out.size _).alloc (HB0.out.alloc HB0.out.size _).size _).size _).size _)
  have C : Below w.heap.size w ((((w.alloc (.cells #[.int .i64 ax, .int .i64 ay] 23)).alloc (.cells #[.int .i64 bx, .int .i64 b_] 23)).alloc (.cells #[.int .i64 cx, .int .i64 cy] 23)).alloc (.cells #[.int .i64 0, .slice none 0 0] 41)) := (((((Below.refl w.heap.size w).alloc (Nat.le_refl _) _).alloc (by simp; try omega) _).alloc (by simp; try omega) _).alloc (by simp; try omega) _)
  have X0 : Bx ((((w.alloc (.cells #[.int .i64 ax, .int .i64 ay] 23)).alloc (.cells #[.int .i64 bx, .int .i64 b_] 23)).alloc (.cells #[.int .i64 cx, .int .i64 cy] 23)).alloc (.cells #[.int .i64 0, .slice none 0 0] 41)) (w.heap.size) #[.int .i64 ax, .int .i64 ay] 23 := by simpa using ((((Bx.new w #[.int .i64 ax, .int .i64 ay] 23).alloc _).alloc _).alloc _)
  have X1 : Bx ((((w.alloc (.cells #[.int .i64 ax, .int .i64 ay] 23)).alloc (.cells #[.int .i64 bx, .int .i64 b_] 23)).alloc (.cells #[.int .i64 cx, .int .i64 cy] 23)).alloc (.cells #[.int .i64 0, .slice none 0 0] 41)) (w.heap.size + 1) #[.int .i64 bx, .int .i64 b_] 23 := by simpa using (((Bx.new (w.alloc (.cells #[.int .i64 ax, .int .i64 ay] 23)) #[.int .i64 bx, .int .i64 b_] 23).alloc _).alloc _)
  have X2 : Bx ((((w.alloc (.cells #[.int .i64 ax, .int .i64 ay] 23)).alloc (.cells #[.int .i64 bx, .int .i64 b_] 23)).alloc (.cells #[.int .i64 cx, .int .i64 cy] 23)).alloc (.cells #[.int .i64 0, .slice none 0 0] 41)) (w.heap.size + 1 + 1) #[.int .i64 cx, .int .i64 cy] 23 := by simpa using ((Bx.new ((w.alloc (.cells #[.int .i64 ax, .int .i64 ay] 23)).alloc (.cells #[.int .i64 bx, .int .i64 b_] 23)) #[.int .i64 cx, .int .i64 cy] 23).alloc _)
  have X3 : Bx ((((w.alloc (.cells #[.int .i64 ax, .int .i64 ay] 23)).alloc (.cells #[.int .i64 bx, .int .i64 b_] 23)).alloc (.cells #[.int .i64 cx, .int .i64 cy] 23)).alloc (.cells #[.int .i64 0, .slice none 0 0] 41)) (w.heap.size + 1 + 1 + 1) #[.int .i64 0, .slice none 0 0] 41 := by simpa using (Bx.new (((w.alloc (.cells #[.int .i64 ax, .int .i64 ay] 23)).alloc (.cells #[.int .i64 bx, .int .i64 b_] 23)).alloc (.cells #[.int .i64 cx, .int .i64 cy] 23)) #[.int .i64 0, .slice none 0 0] 41)
  have HB1 := Lib.hid B
  have FP_1 := Lib.hid X0
  have FQ_1 := Lib.hid X1
  have FT_1 := Lib.hid X2
  have FR_1 := Lib.hid X3
  clear B C X0 X1 X2 X3 HB0 
  generalize ((((w.alloc (.cells #[.int .i64 ax, .int .i64 ay] 23)).alloc (.cells #[.int .i64 bx, .int .i64 b_] 23)).alloc (.cells #[.int .i64 cx, .int .i64 cy] 23)).alloc (.cells #[.int .i64 0, .slice none 0 0] 41)) = w1 at *
  have RB1 := Lib.hid (below_drew0 w1)
  have QS1 := Lib.hid (show w1.cell? ⟨w.heap.size, 0, none⟩ = some (.int .i64 ax) ∧ w1.cell? ⟨w.heap.size, 1, none⟩ = some (.int .i64 ay) ∧ w1.cell? ⟨w.heap.size + 1, 0, none⟩ = some (.int .i64 bx) ∧ w1.cell? ⟨w.heap.size + 1, 1, none⟩ = some (.int .i64 b_) ∧ w1.cell? ⟨w.heap.size + 1 + 1, 0, none⟩ = some (.int .i64 cx) ∧ w1.cell? ⟨w.heap.size + 1 + 1, 1, none⟩ = some (.int .i64 cy) from ⟨FP_1.out.cell 0 (v := .int .i64 ax) rfl, FP_1.out.cell 1 (v := .int .i64 ay) rfl, FQ_1.out.cell 0 (v := .int .i64 bx) rfl, FQ_1.out.cell 1 (v := .int .i64 b_) rfl, FT_1.out.cell 0 (v := .int .i64 cx) rfl, FT_1.out.cell 1 (v := .int .i64 cy) rfl⟩)
  have QF1 := Lib.hid (show ∀ w', Below w1.heap.size w1 w' → w'.cell? ⟨w.heap.size, 0, none⟩ = some (.int .i64 ax) ∧ w'.cell? ⟨w.heap.size, 1, none⟩ = some (.int .i64 ay) ∧ w'.cell? ⟨w.heap.size + 1, 0, none⟩ = some (.int .i64 bx) ∧ w'.cell? ⟨w.heap.size + 1, 1, none⟩ = some (.int .i64 b_) ∧ w'.cell? ⟨w.heap.size + 1 + 1, 0, none⟩ = some (.int .i64 cx) ∧ w'.cell? ⟨w.heap.size + 1 + 1, 1, none⟩ = some (.int .i64 cy) from fun w' hb => ⟨(FP_1.out.below hb (Nat.le_refl _)).cell 0 (v := .int .i64 ax) rfl, (FP_1.out.below hb (Nat.le_refl _)).cell 1 (v := .int .i64 ay) rfl, (FQ_1.out.below hb (Nat.le_refl _)).cell 0 (v := .int .i64 bx) rfl, (FQ_1.out.below hb (Nat.le_refl _)).cell 1 (v := .int .i64 b_) rfl, (FT_1.out.below hb (Nat.le_refl _)).cell 0 (v := .int .i64 cx) rfl, (FT_1.out.below hb (Nat.le_refl _)).cell 1 (v := .int .i64 cy) rfl⟩)
  go_region_held3 (fun w' => w'.cell? ⟨w.heap.size, 0, none⟩ = some (.int .i64 ax) ∧ w'.cell? ⟨w.heap.size, 1, none⟩ = some (.int .i64 ay) ∧ w'.cell? ⟨w.heap.size + 1, 0, none⟩ = some (.int .i64 bx) ∧ w'.cell? ⟨w.heap.size + 1, 1, none⟩ = some (.int .i64 b_) ∧ w'.cell? ⟨w.heap.size + 1 + 1, 0, none⟩ = some (.int .i64 cx) ∧ w'.cell? ⟨w.heap.size + 1 + 1, 1, none⟩ = some (.int .i64 cy)) (first | with_reducible exact QF1.out _ RB6.out | with_reducible exact QF1.out _ RB5.out | with_reducible exact QF1.out _ RB4.out | with_reducible exact QF1.out _ RB3.out | with_reducible exact QF1.out _ RB2.out | with_reducible exact QS1.out | with_reducible exact QF1.out _ RB1.out | with_reducible exact ⟨keep_set (keep_set ((QF1.out _ RB6.out).1) (by simp <;> omega)) (by simp <;> omega), keep_set (keep_set ((QF1.out _ RB6.out).2.1) (by simp <;> omega)) (by simp <;> omega), keep_set (keep_set ((QF1.out _ RB6.out).2.2.1) (by simp <;> omega)) (by simp <;> omega), keep_set (keep_set ((QF1.out _ RB6.out).2.2.2.1) (by simp <;> omega)) (by simp <;> omega), keep_set (keep_set ((QF1.out _ RB6.out).2.2.2.2.1) (by simp <;> omega)) (by simp <;> omega), keep_set (keep_set ((QF1.out _ RB6.out).2.2.2.2.2) (by simp <;> omega)) (by simp <;> omega)⟩) (first
      | (go_at_call 34; have := RB5; clear this; refine (ref3_AddZ P2 P3 p2 g2 p3 g3 _ _ _ (det_ref ax ay bx b_ cx cy) _ RM2_5.out RM3_5.out (by omega) (by omega)).mono ?_; rintro e w6 ⟨⟨P4, p4, g4, rfl, b4, N4⟩, B⟩; have RB6 := Lib.hid (RB5.out.trans (B.mono RB5.out.size)); have RM0_6 := Lib.hid (RM0_5.out.below B (Nat.le_refl _)); have RM1_6 := Lib.hid (RM1_5.out.below B (Nat.le_refl _)); have RM2_6 := Lib.hid (RM2_5.out.below B (Nat.le_refl _)); have RM3_6 := Lib.hid (RM3_5.out.below B (Nat.le_refl _)); have RM4_6 := Lib.hid N4; clear B N4; have q0 := (FR_1.out.below RB6.out (Nat.le_refl _)).cell 0 (v := .int .i64 0) rfl; have q1 := (FR_1.out.below RB6.out (Nat.le_refl _)).cell 1 (v := .slice none 0 0) rfl; have z0 := (FR_1.out.below RB6.out (Nat.le_refl _)).free 0; have z1 := (FR_1.out.below RB6.out (Nat.le_refl _)).free 1)
      | (go_at_call 57; have := RB4; clear this; refine (ref6_minor ax ay bx b_ hp.a hp.b hp.c hp.d _).mono ?_; rintro e w5 ⟨⟨P3, p3, g3, rfl, b3, N3⟩, B⟩; have RB5 := Lib.hid (RB4.out.trans (B.mono RB4.out.size)); have RM0_5 := Lib.hid (RM0_4.out.below B (Nat.le_refl _)); have RM1_5 := Lib.hid (RM1_4.out.below B (Nat.le_refl _)); have RM2_5 := Lib.hid (RM2_4.out.below B (Nat.le_refl _)); have RM3_5 := Lib.hid N3; clear B N3)
      | (go_at_call 35; have := RB3; clear this; refine (ref3_Sub P0 P1 p0 g0 p1 g1 _ _ _ RM0_3.out RM1_3.out (by omega) (by omega)).mono ?_; rintro e w4 ⟨⟨P2, p2, g2, rfl, b2, N2⟩, B⟩; have RB4 := Lib.hid (RB3.out.trans (B.mono RB3.out.size)); have RM0_4 := Lib.hid (RM0_3.out.below B (Nat.le_refl _)); have RM1_4 := Lib.hid (RM1_3.out.below B (Nat.le_refl _)); have RM2_4 := Lib.hid N2; clear B N2)
      | (go_at_call 57; have := RB2; clear this; refine (ref6_minor ax ay cx cy hp.a hp.b hp.e hp.f _).mono ?_; rintro e w3 ⟨⟨P1, p1, g1, rfl, b1, N1⟩, B⟩; have RB3 := Lib.hid (RB2.out.trans (B.mono RB2.out.size)); have RM0_3 := Lib.hid (RM0_2.out.below B (Nat.le_refl _)); have RM1_3 := Lib.hid N1; clear B N1)
      | (go_at_call 57; have := RB1; clear this; refine (ref6_minor bx b_ cx cy hp.c hp.d hp.e hp.f _).mono ?_; rintro e w2 ⟨⟨P0, p0, g0, rfl, b0, N0⟩, B⟩; have RB2 := Lib.hid (RB1.out.trans (B.mono RB1.out.size)); have RM0_2 := Lib.hid N0; clear B N0))
  have FP_6 := Lib.hid (FP_1.out.below RB6.out (Nat.le_refl _))
  have FQ_6 := Lib.hid (FQ_1.out.below RB6.out (Nat.le_refl _))
  have FT_6 := Lib.hid (FT_1.out.below RB6.out (Nat.le_refl _))
  have FR_6 := Lib.hid (FR_1.out.below RB6.out (Nat.le_refl _))
  have HB6 := Lib.hid (HB1.out.trans (RB6.out.mono HB1.out.size))
  clear HB1 FP_1 FQ_1 FT_1 FR_1
  go_wp2_with fail
  have r0 := FR_6.out
  have r1 := r0.set 0 (.int .i64 (sg (det ax ay bx b_ cx cy)))
  refine bodyPost_ret (v := .agg #[.int .i64 (sg (det ax ay bx b_ cx cy)), .slice P4 p4 g4]) (by simp [results, Tryz.results31, go_sem, q0, q1]) rfl ⟨⟨P4, p4, g4, rfl, by omega, ((RM4_6.out.setB r0 (by decide)).setB r1 (by decide))⟩, ?_⟩
  exact ((HB6.out.setCell (p := ⟨w.heap.size + 1 + 1 + 1, 0, none⟩) (by simp <;> omega) _).setCell (p := ⟨w.heap.size + 1 + 1 + 1, 1, none⟩) (by simp <;> omega) _)

set_option maxHeartbeats 1000000 in
theorem ref6_Sign (ax ay bx b_ cx cy : Int) (hp : P3 ax ay bx b_ cx cy) (w : World) :
    Calls Tryz.prog 12 #[.agg #[.int .i64 ax, .int .i64 ay], .agg #[.int .i64 bx, .int .i64 b_], .agg #[.int .i64 cx, .int .i64 cy]] w fun e w' => e = .returned (.int .i64 (sg (det ax ay bx b_ cx cy))) ∧ Below w.heap.size w w' := by
  have HB0 := Lib.hid (Below.refl w.heap.size w)
  have hfd : ∀ (s : Int) (V : Option Addr) (k c : Nat) (w : World), (Instr.field 41 (.agg #[.int .i64 s, .slice V k c]) 0).run Tryz.prog w = .ok (.int .i64 s) w := fun _ _ _ _ _ => by kernel_rfl
  go_enter Tryz.func12, Tryz.ntmps12
  go_wp2_with fail
  refine (ref6_Value _ _ _ _ _ _ hp _).mono ?_
  rintro e w1 ⟨⟨A1, k1, c1, rfl, b1, N1⟩, B⟩
  have HB1 := Lib.hid ((((HB0.out.alloc HB0.out.size _).alloc (HB0.out.alloc HB0.out.size _).size _).alloc ((HB0.out.alloc HB0.out.size _).alloc (HB0.out.alloc HB0.out.size _).size _).size _).trans (B.mono (((HB0.out.alloc HB0.out.size _).alloc (HB0.out.alloc HB0.out.size _).size _).alloc ((HB0.out.alloc HB0.out.size _).alloc (HB0.out.alloc HB0.out.size _).size _).size _).size))
  clear B  HB0
  clear N1
  go_wp2_with fail
  go_ret
  exact ⟨rfl, HB1.out⟩

end Go.Proofs.YtjdiilkljgljkaaGreatDoor
namespace Go.Proofs.YtjdiilkljgljkaaGreatDoor
set_option linter.unusedVariables false
set_option linter.unusedSimpArgs false
open Go.RowKit Wd

theorem isIP {w : World} {A : Option Addr} {n c : Nat} {f g : Nat → Int} (h : Pts w A n c f g) {i j k : Nat} (hi : i < n) (hj : j < n) (hk : k < n) : P3 (f i) (g i) (f j) (g j) (f k) (g k) :=
  ⟨(h.isi i hi).1, (h.isi i hi).2, (h.isi j hj).1, (h.isi j hj).2, (h.isi k hk).1, (h.isi k hk).2⟩
theorem isIP2 {w : World} {A : Option Addr} {n c : Nat} {f g : Nat → Int} (h : Pts w A n c f g) {i j : Nat} {x y : Int} (hi : i < n) (hj : j < n) (hx : IsI x) (hy : IsI y) : P3 (f i) (g i) (f j) (g j) x y :=
  ⟨(h.isi i hi).1, (h.isi i hi).2, (h.isi j hj).1, (h.isi j hj).2, hx, hy⟩
theorem Pts.c6 {w : World} {A : Option Addr} {n c : Nat} {f g : Nat → Int} (h : Pts w A n c f g) (hn : 3 ≤ n) : ∃ b off, A = some ⟨b, off, none⟩ ∧ C6 w b off (f 0) (g 0) (f 1) (g 1) (f 2) (g 2) := by
  obtain ⟨b, off, e, hlt, hc⟩ := h.at_ (by omega)
  exact ⟨b, off, e, hlt, (hc 0 (by omega)).1, (hc 0 (by omega)).2, (hc 1 (by omega)).1, (hc 1 (by omega)).2, (hc 2 (by omega)).1, (hc 2 (by omega)).2⟩
theorem Pts.one {w : World} {b off n c : Nat} {f g : Nat → Int} (h : Pts w (some ⟨b, off, none⟩) n c f g) {i : Nat} (hi : i < n) : Pt1 w b (off + i * 2) (f i) (g i) := by
  obtain ⟨b', off', e, hlt, hc⟩ := h.at_ (by omega)
  cases e
  exact ⟨hlt, (hc i hi).1, (hc i hi).2⟩
theorem Pts.some {w : World} {A : Option Addr} {n c : Nat} {f g : Nat → Int} (h : Pts w A n c f g) (hn : 0 < n) : ∃ b off, A = some ⟨b, off, none⟩ := by
  obtain ⟨b, off, e, _⟩ := h.at_ hn; exact ⟨b, off, e⟩
set_option maxHeartbeats 4000000 in
theorem polygon_Orientation (A : Option Addr) (n c : Nat) (f g : Nat → Int) (w : World) (hT : TabM w) (hp : Pts w A n c f g) :
    Calls Tryz.prog 171 #[.slice A n c] w fun e w' => e = .returned (.int .i64 (ori f g n)) ∧ Below w.heap.size w w' := by
  by_cases hin : inP n
  · have hn3 := hin.1; have hn64 := hin.2
    have q1 : ¬ ((n : Int) < 3) := by omega
    have q2 : ¬ ((64 : Int) < n) := by omega
    obtain ⟨b, off, rfl, hx⟩ := hp.c6 hn3
    have hp3 := isIP hp (i := 0) (j := 1) (k := 2) (by omega) (by omega) (by omega)
    rw [ori_in hin]
    have hm := Nat.le_trans hp.cap hp.max
    have i0 : 0 < n := by omega
    have i1 : (1 : Int) < n := by omega
    have i2 : (2 : Int) < n := by omega
    clear hp
    have HB0 := Lib.hid (Below.refl w.heap.size w)
    have FT := Lib.hid hT
    have FY := Lib.hid hx
    clear hT hx
    go_enter Tryz.func171, Tryz.ntmps171
    go_wp2_with fail
    have RB0 := Lib.hid (below_drew0 w)
    have QF0 := Lib.hid (show ∀ w', Below w.heap.size w w' → w'.cell? ⟨b, off, none⟩ = some (.int .i64 (f 0)) ∧ w'.cell? ⟨b, off + 1, none⟩ = some (.int .i64 (g 0)) ∧ w'.cell? ⟨b, off + 2, none⟩ = some (.int .i64 (f 1)) ∧ w'.cell? ⟨b, off + 3, none⟩ = some (.int .i64 (g 1)) ∧ w'.cell? ⟨b, off + 4, none⟩ = some (.int .i64 (f 2)) ∧ w'.cell? ⟨b, off + 5, none⟩ = some (.int .i64 (g 2)) from fun w' hb => ⟨(FY.out.below hb (Nat.le_refl _)).c0, (FY.out.below hb (Nat.le_refl _)).c1, (FY.out.below hb (Nat.le_refl _)).c2, (FY.out.below hb (Nat.le_refl _)).c3, (FY.out.below hb (Nat.le_refl _)).c4, (FY.out.below hb (Nat.le_refl _)).c5⟩)
    refine wp_region_held_drew (S := fun w' => w'.cell? ⟨b, off, none⟩ = some (.int .i64 (f 0)) ∧ w'.cell? ⟨b, off + 1, none⟩ = some (.int .i64 (g 0)) ∧ w'.cell? ⟨b, off + 2, none⟩ = some (.int .i64 (f 1)) ∧ w'.cell? ⟨b, off + 3, none⟩ = some (.int .i64 (g 1)) ∧ w'.cell? ⟨b, off + 4, none⟩ = some (.int .i64 (f 2)) ∧ w'.cell? ⟨b, off + 5, none⟩ = some (.int .i64 (g 2))) (by kernel_rfl) (QF0.out _ RB0.out) (fun hHeld => ?_)
    refine wpAnyH_take (i := 0) (v := ?_) (by simp only [List.getElem?_toArray, List.getElem?_cons_succ, List.getElem?_cons_zero]; rfl) (by kernel_rfl) (by kernel_rfl) (by kernel_rfl) (by intro _ _ _ h; exact h) (Or.inl ⟨by rfl, ?_⟩) hHeld ?_
    rotate_left 1
    · intro w hSw; (try dsimp only at hSw); go_simp; try with_reducible rfl
    try simp only [Act.put, List.setIfInBounds_toArray, List.set_cons_zero, List.set_cons_succ]
    refine wpAnyH_take (i := 1) (v := ?_) (by simp only [List.getElem?_toArray, List.getElem?_cons_succ, List.getElem?_cons_zero]; rfl) (by kernel_rfl) (by kernel_rfl) (by kernel_rfl) (by intro _ _ _ h; exact h) (Or.inl ⟨by rfl, ?_⟩) hHeld ?_
    rotate_left 1
    · intro w hSw; (try dsimp only at hSw); go_simp; try with_reducible rfl
    try simp only [Act.put, List.setIfInBounds_toArray, List.set_cons_zero, List.set_cons_succ]
    refine wpAnyH_take (i := 2) (v := ?_) (by simp only [List.getElem?_toArray, List.getElem?_cons_succ, List.getElem?_cons_zero]; rfl) (by kernel_rfl) (by kernel_rfl) (by kernel_rfl) (by intro _ _ _ h; exact h) (Or.inl ⟨by rfl, ?_⟩) hHeld ?_
    rotate_left 1
    · intro w hSw; (try dsimp only at hSw); go_simp; try with_reducible rfl
    try simp only [Act.put, List.setIfInBounds_toArray, List.set_cons_zero, List.set_cons_succ]
    refine wpAnyH_take (i := 3) (v := ?_) (by simp only [List.getElem?_toArray, List.getElem?_cons_succ, List.getElem?_cons_zero]; rfl) (by kernel_rfl) (by kernel_rfl) (by kernel_rfl) (by intro _ _ _ h; exact h) (Or.inl ⟨by rfl, ?_⟩) hHeld ?_
    rotate_left 1
    · intro w hSw; (try dsimp only at hSw); go_simp; try with_reducible rfl
    try simp only [Act.put, List.setIfInBounds_toArray, List.set_cons_zero, List.set_cons_succ]
    refine wpAnyH_take (i := 4) (v := ?_) (by simp only [List.getElem?_toArray, List.getElem?_cons_succ, List.getElem?_cons_zero]; rfl) (by kernel_rfl) (by kernel_rfl) (by kernel_rfl) (by intro _ _ _ h; exact h) (Or.inl ⟨by rfl, ?_⟩) hHeld ?_
    rotate_left 1
    · intro w hSw; (try dsimp only at hSw); go_simp; try with_reducible rfl
    try simp only [Act.put, List.setIfInBounds_toArray, List.set_cons_zero, List.set_cons_succ]
    refine wpAnyH_take (i := 5) (v := ?_) (by simp only [List.getElem?_toArray, List.getElem?_cons_succ, List.getElem?_cons_zero]; rfl) (by kernel_rfl) (by kernel_rfl) (by kernel_rfl) (by intro _ _ _ h; exact h) (Or.inl ⟨by rfl, ?_⟩) hHeld ?_
    rotate_left 1
    · intro w hSw; (try dsimp only at hSw); go_simp; try with_reducible rfl
    try simp only [Act.put, List.setIfInBounds_toArray, List.set_cons_zero, List.set_cons_succ]
    refine wpAnyH_take (i := 6) (v := ?_) (by simp only [List.getElem?_toArray, List.getElem?_cons_succ, List.getElem?_cons_zero]; rfl) (by kernel_rfl) (by kernel_rfl) (by kernel_rfl) (by intro _ _ _ h; exact h) (Or.inl ⟨by rfl, ?_⟩) hHeld ?_
    rotate_left 1
    · intro w hSw; (try dsimp only at hSw); go_simp; try with_reducible rfl
    try simp only [Act.put, List.setIfInBounds_toArray, List.set_cons_zero, List.set_cons_succ]
    refine wpAnyH_take (i := 7) (v := ?_) (by simp only [List.getElem?_toArray, List.getElem?_cons_succ, List.getElem?_cons_zero]; rfl) (by kernel_rfl) (by kernel_rfl) (by kernel_rfl) (by intro _ _ _ h; exact h) (Or.inl ⟨by rfl, ?_⟩) hHeld ?_
    rotate_left 1
    · intro w hSw; (try dsimp only at hSw); go_simp; try with_reducible rfl
    try simp only [Act.put, List.setIfInBounds_toArray, List.set_cons_zero, List.set_cons_succ]
    refine wpAnyH_take (i := 8) (v := ?_) (by simp only [List.getElem?_toArray, List.getElem?_cons_succ, List.getElem?_cons_zero]; rfl) (by kernel_rfl) (by kernel_rfl) (by kernel_rfl) (by intro _ _ _ h; exact h) (Or.inl ⟨by rfl, ?_⟩) hHeld ?_
    rotate_left 1
    · intro w hSw; (try dsimp only at hSw); go_simp; try with_reducible rfl
    try simp only [Act.put, List.setIfInBounds_toArray, List.set_cons_zero, List.set_cons_succ]
    refine wpAnyH_ready (rs := [9]) (by kernel_rfl) (by simp) ?_
    refine AllReadyH.cons (by simp only [List.getElem?_toArray, List.getElem?_cons_succ, List.getElem?_cons_zero]; rfl) (fun K hK => ?_) AllReadyH.nil
    go_simp
    refine (orient_Sign _ _ _ _ _ _ hp3 _ (FT.out.below RB0.out (Nat.le_refl _))).mono ?_
    rintro e w1 ⟨rfl, B⟩
    have RB1 := Lib.hid (RB0.out.trans (B.mono RB0.out.size))
    clear B 
    go_wp2_with fail
    refine hK.out _ _ (QF0.out _ RB1.out) (fun hHeld1 => ?_)
    clear hK K hHeld; have hHeld := hHeld1; clear hHeld1
    try simp only [Act.put, List.setIfInBounds_toArray, List.set_cons_zero, List.set_cons_succ]
    refine wpAnyH_take (i := 10) (v := ?_) (by simp only [List.getElem?_toArray, List.getElem?_cons_succ, List.getElem?_cons_zero]; rfl) (by kernel_rfl) (by kernel_rfl) (by kernel_rfl) (by intro _ _ _ h; exact h) (Or.inl ⟨by rfl, ?_⟩) hHeld ?_
    rotate_left 1
    · intro w hSw; (try dsimp only at hSw); go_simp; try with_reducible rfl
    try simp only [Act.put, List.setIfInBounds_toArray, List.set_cons_zero, List.set_cons_succ]
    refine wpAnyH_done (by kernel_rfl) ?_ _
    have FT_1 := Lib.hid (FT.out.below RB1.out (Nat.le_refl _))
    have FY_1 := Lib.hid (FY.out.below RB1.out (Nat.le_refl _))
    have HB1 := Lib.hid (HB0.out.trans (RB1.out.mono HB0.out.size))
    clear hHeld HB0 FT FY
    go_wp2_with fail
    go_ret
    exact ⟨rfl, HB1.out⟩
  · rw [ori_out hin]
    have hm := Nat.le_trans hp.cap hp.max
    unfold inP at hin
    rcases (by omega : n < 3 ∨ (3 ≤ n ∧ 64 < n)) with h | ⟨h2, h⟩
    · have q1 : (n : Int) < 3 := by omega
      go_enter Tryz.func171, Tryz.ntmps171
      go_wp2_with fail
      go_ret
      exact ⟨rfl, Below.refl _ _⟩
    · have q1 : ¬ ((n : Int) < 3) := by omega
      have q2 : (64 : Int) < n := by omega
      go_enter Tryz.func171, Tryz.ntmps171
      go_wp2_with fail
      go_ret
      exact ⟨rfl, Below.refl _ _⟩
set_option maxHeartbeats 1000000 in
theorem ref14_Is (A : Option Addr) (n c : Nat) (hn : n ≤ maxLen) (w : World) :
    Calls Tryz.prog 95 #[.slice A n c] w fun e w' => e = .returned (.bool (decide (inP n))) ∧ Below w.heap.size w w' := by
  by_cases hin : inP n
  · have q1 : (3 : Int) ≤ n := by have := hin.1; omega
    have q2 : (n : Int) ≤ 64 := by have := hin.2; omega
    rw [show decide (inP n) = true from by simpa using hin]
    go_enter Tryz.func95, Tryz.ntmps95
    go_wp2_with fail
    go_ret
    exact ⟨rfl, Below.refl _ _⟩
  · rw [show decide (inP n) = false from by simpa using hin]
    unfold inP at hin
    rcases (by omega : n < 3 ∨ (3 ≤ n ∧ 64 < n)) with h | ⟨h2, h⟩
    · have q1 : ¬ ((3 : Int) ≤ n) := by omega
      go_enter Tryz.func95, Tryz.ntmps95
      go_wp2_with fail
      go_ret
      exact ⟨rfl, Below.refl _ _⟩
    · have q1 : (3 : Int) ≤ n := by omega
      have q2 : ¬ ((n : Int) ≤ 64) := by omega
      go_enter Tryz.func95, Tryz.ntmps95
      go_wp2_with fail
      go_ret
      exact ⟨rfl, Below.refl _ _⟩
set_option maxHeartbeats 4000000 in
theorem ref14_Orientation (A : Option Addr) (n c : Nat) (f g : Nat → Int) (w : World) (hp : Pts w A n c f g) :
    Calls Tryz.prog 96 #[.slice A n c] w fun e w' => e = .returned (.int .i64 (ori f g n)) ∧ Below w.heap.size w w' := by
  by_cases hin : inP n
  · have hn3 := hin.1; have hn64 := hin.2
    have q1 : ¬ ((n : Int) < 3) := by omega
    have q2 : ¬ ((64 : Int) < n) := by omega
    obtain ⟨b, off, rfl, hx⟩ := hp.c6 hn3
    have hp3 := isIP hp (i := 0) (j := 1) (k := 2) (by omega) (by omega) (by omega)
    rw [ori_in hin]
    have hm := Nat.le_trans hp.cap hp.max
    have i0 : 0 < n := by omega
    have i1 : (1 : Int) < n := by omega
    have i2 : (2 : Int) < n := by omega
    clear hp
    have HB0 := Lib.hid (Below.refl w.heap.size w)
    have FY := Lib.hid hx
    clear hx
    go_enter Tryz.func96, Tryz.ntmps96
    go_wp2_with fail
    refine (ref14_Is _ n c hm _).mono ?_
    rintro e w1 ⟨rfl, B⟩
    have HB1 := Lib.hid (HB0.out.trans (B.mono HB0.out.size))
    have FY_1 := Lib.hid (FY.out.below B (Nat.le_refl _))
    clear B  HB0 FY
    rw [show decide (inP n) = true from by simpa using hin]
    go_wp2_with fail
    have RB1 := Lib.hid (below_drew0 w1)
    have QF1 := Lib.hid (show ∀ w', Below w1.heap.size w1 w' → w'.cell? ⟨b, off, none⟩ = some (.int .i64 (f 0)) ∧ w'.cell? ⟨b, off + 1, none⟩ = some (.int .i64 (g 0)) ∧ w'.cell? ⟨b, off + 2, none⟩ = some (.int .i64 (f 1)) ∧ w'.cell? ⟨b, off + 3, none⟩ = some (.int .i64 (g 1)) ∧ w'.cell? ⟨b, off + 4, none⟩ = some (.int .i64 (f 2)) ∧ w'.cell? ⟨b, off + 5, none⟩ = some (.int .i64 (g 2)) from fun w' hb => ⟨(FY_1.out.below hb (Nat.le_refl _)).c0, (FY_1.out.below hb (Nat.le_refl _)).c1, (FY_1.out.below hb (Nat.le_refl _)).c2, (FY_1.out.below hb (Nat.le_refl _)).c3, (FY_1.out.below hb (Nat.le_refl _)).c4, (FY_1.out.below hb (Nat.le_refl _)).c5⟩)
    refine wp_region_held_drew (S := fun w' => w'.cell? ⟨b, off, none⟩ = some (.int .i64 (f 0)) ∧ w'.cell? ⟨b, off + 1, none⟩ = some (.int .i64 (g 0)) ∧ w'.cell? ⟨b, off + 2, none⟩ = some (.int .i64 (f 1)) ∧ w'.cell? ⟨b, off + 3, none⟩ = some (.int .i64 (g 1)) ∧ w'.cell? ⟨b, off + 4, none⟩ = some (.int .i64 (f 2)) ∧ w'.cell? ⟨b, off + 5, none⟩ = some (.int .i64 (g 2))) (by kernel_rfl) (QF1.out _ RB1.out) (fun hHeld => ?_)
    refine wpAnyH_take (i := 0) (v := ?_) (by simp only [List.getElem?_toArray, List.getElem?_cons_succ, List.getElem?_cons_zero]; rfl) (by kernel_rfl) (by kernel_rfl) (by kernel_rfl) (by intro _ _ _ h; exact h) (Or.inl ⟨by rfl, ?_⟩) hHeld ?_
    rotate_left 1
    · intro w hSw; (try dsimp only at hSw); go_simp; try with_reducible rfl
    try simp only [Act.put, List.setIfInBounds_toArray, List.set_cons_zero, List.set_cons_succ]
    refine wpAnyH_take (i := 1) (v := ?_) (by simp only [List.getElem?_toArray, List.getElem?_cons_succ, List.getElem?_cons_zero]; rfl) (by kernel_rfl) (by kernel_rfl) (by kernel_rfl) (by intro _ _ _ h; exact h) (Or.inl ⟨by rfl, ?_⟩) hHeld ?_
    rotate_left 1
    · intro w hSw; (try dsimp only at hSw); go_simp; try with_reducible rfl
    try simp only [Act.put, List.setIfInBounds_toArray, List.set_cons_zero, List.set_cons_succ]
    refine wpAnyH_take (i := 2) (v := ?_) (by simp only [List.getElem?_toArray, List.getElem?_cons_succ, List.getElem?_cons_zero]; rfl) (by kernel_rfl) (by kernel_rfl) (by kernel_rfl) (by intro _ _ _ h; exact h) (Or.inl ⟨by rfl, ?_⟩) hHeld ?_
    rotate_left 1
    · intro w hSw; (try dsimp only at hSw); go_simp; try with_reducible rfl
    try simp only [Act.put, List.setIfInBounds_toArray, List.set_cons_zero, List.set_cons_succ]
    refine wpAnyH_take (i := 3) (v := ?_) (by simp only [List.getElem?_toArray, List.getElem?_cons_succ, List.getElem?_cons_zero]; rfl) (by kernel_rfl) (by kernel_rfl) (by kernel_rfl) (by intro _ _ _ h; exact h) (Or.inl ⟨by rfl, ?_⟩) hHeld ?_
    rotate_left 1
    · intro w hSw; (try dsimp only at hSw); go_simp; try with_reducible rfl
    try simp only [Act.put, List.setIfInBounds_toArray, List.set_cons_zero, List.set_cons_succ]
    refine wpAnyH_take (i := 4) (v := ?_) (by simp only [List.getElem?_toArray, List.getElem?_cons_succ, List.getElem?_cons_zero]; rfl) (by kernel_rfl) (by kernel_rfl) (by kernel_rfl) (by intro _ _ _ h; exact h) (Or.inl ⟨by rfl, ?_⟩) hHeld ?_
    rotate_left 1
    · intro w hSw; (try dsimp only at hSw); go_simp; try with_reducible rfl
    try simp only [Act.put, List.setIfInBounds_toArray, List.set_cons_zero, List.set_cons_succ]
    refine wpAnyH_take (i := 5) (v := ?_) (by simp only [List.getElem?_toArray, List.getElem?_cons_succ, List.getElem?_cons_zero]; rfl) (by kernel_rfl) (by kernel_rfl) (by kernel_rfl) (by intro _ _ _ h; exact h) (Or.inl ⟨by rfl, ?_⟩) hHeld ?_
    rotate_left 1
    · intro w hSw; (try dsimp only at hSw); go_simp; try with_reducible rfl
    try simp only [Act.put, List.setIfInBounds_toArray, List.set_cons_zero, List.set_cons_succ]
    refine wpAnyH_take (i := 6) (v := ?_) (by simp only [List.getElem?_toArray, List.getElem?_cons_succ, List.getElem?_cons_zero]; rfl) (by kernel_rfl) (by kernel_rfl) (by kernel_rfl) (by intro _ _ _ h; exact h) (Or.inl ⟨by rfl, ?_⟩) hHeld ?_
    rotate_left 1
    · intro w hSw; (try dsimp only at hSw); go_simp; try with_reducible rfl
    try simp only [Act.put, List.setIfInBounds_toArray, List.set_cons_zero, List.set_cons_succ]
    refine wpAnyH_take (i := 7) (v := ?_) (by simp only [List.getElem?_toArray, List.getElem?_cons_succ, List.getElem?_cons_zero]; rfl) (by kernel_rfl) (by kernel_rfl) (by kernel_rfl) (by intro _ _ _ h; exact h) (Or.inl ⟨by rfl, ?_⟩) hHeld ?_
    rotate_left 1
    · intro w hSw; (try dsimp only at hSw); go_simp; try with_reducible rfl
    try simp only [Act.put, List.setIfInBounds_toArray, List.set_cons_zero, List.set_cons_succ]
    refine wpAnyH_take (i := 8) (v := ?_) (by simp only [List.getElem?_toArray, List.getElem?_cons_succ, List.getElem?_cons_zero]; rfl) (by kernel_rfl) (by kernel_rfl) (by kernel_rfl) (by intro _ _ _ h; exact h) (Or.inl ⟨by rfl, ?_⟩) hHeld ?_
    rotate_left 1
    · intro w hSw; (try dsimp only at hSw); go_simp; try with_reducible rfl
    try simp only [Act.put, List.setIfInBounds_toArray, List.set_cons_zero, List.set_cons_succ]
    refine wpAnyH_ready (rs := [9]) (by kernel_rfl) (by simp) ?_
    refine AllReadyH.cons (by simp only [List.getElem?_toArray, List.getElem?_cons_succ, List.getElem?_cons_zero]; rfl) (fun K hK => ?_) AllReadyH.nil
    go_simp
    refine (ref6_Sign _ _ _ _ _ _ hp3 _).mono ?_
    rintro e w2 ⟨rfl, B⟩
    have RB2 := Lib.hid (RB1.out.trans (B.mono RB1.out.size))
    clear B 
    go_wp2_with fail
    refine hK.out _ _ (QF1.out _ RB2.out) (fun hHeld2 => ?_)
    clear hK K hHeld; have hHeld := hHeld2; clear hHeld2
    try simp only [Act.put, List.setIfInBounds_toArray, List.set_cons_zero, List.set_cons_succ]
    refine wpAnyH_take (i := 10) (v := ?_) (by simp only [List.getElem?_toArray, List.getElem?_cons_succ, List.getElem?_cons_zero]; rfl) (by kernel_rfl) (by kernel_rfl) (by kernel_rfl) (by intro _ _ _ h; exact h) (Or.inl ⟨by rfl, ?_⟩) hHeld ?_
    rotate_left 1
    · intro w hSw; (try dsimp only at hSw); go_simp; try with_reducible rfl
    try simp only [Act.put, List.setIfInBounds_toArray, List.set_cons_zero, List.set_cons_succ]
    refine wpAnyH_done (by kernel_rfl) ?_ _
    have FY_2 := Lib.hid (FY_1.out.below RB2.out (Nat.le_refl _))
    have HB2 := Lib.hid (HB1.out.trans (RB2.out.mono HB1.out.size))
    clear hHeld HB1 FY_1
    go_wp2_with fail
    go_ret
    exact ⟨rfl, HB2.out⟩
  · rw [ori_out hin]
    have hm := Nat.le_trans hp.cap hp.max
    have HB0 := Lib.hid (Below.refl w.heap.size w)
    go_enter Tryz.func96, Tryz.ntmps96
    go_wp2_with fail
    refine (ref14_Is _ n c hm _).mono ?_
    rintro e w1 ⟨rfl, B⟩
    have HB1 := Lib.hid (HB0.out.trans (B.mono HB0.out.size))
    clear B  HB0
    rw [show decide (inP n) = false from by simpa using hin]
    go_wp2_with fail
    go_ret
    exact ⟨rfl, HB1.out⟩
end Go.Proofs.YtjdiilkljgljkaaGreatDoor
namespace Go.Proofs.YtjdiilkljgljkaaGreatDoor
set_option linter.unusedVariables false
set_option linter.unusedSimpArgs false
open Go.RowKit Wd

theorem mask_Negative (a : Int) (ha : IsI a) (w : World) :
    Calls Tryz.prog 153 #[.int .i64 a] w fun e w' => e = .returned (.int .u64 (msk (decide (a < 0)))) ∧ w = w' := by
  go_enter Tryz.func153, Tryz.ntmps153
  go_wp2
  go_ret
  refine ⟨ret1 ?_, rfl⟩
  simp only [wrapU]
  unfold IsI at ha; unfold lo msk
  by_cases h : a < 0 <;> simp [h] <;> omega
theorem mask_Of1 (w : World) : Calls Tryz.prog 101 #[.int .u64 1] w fun e w' => e = .returned (.int .u64 (msk true)) ∧ w = w' := mask_Of 1 (by unfold IsW; omega) w
end Go.Proofs.YtjdiilkljgljkaaGreatDoor
