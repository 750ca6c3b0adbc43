/- Contract of the reference's point: sixteen bytes appended. append on a row of the call's own, as one step of a region that draws its order. No program's run. Contracts of the codec's writer. Contracts of the codec's writer: point, query, record. Contracts of the codec's reader: byte, word, point. Contracts of the codec's reader: point. Contracts of the header's functions at requests without regions (operations 1 and 2). Contracts of the word functions (math/bits, package word) and of their reference: what each call returns, for every word; none changes memory. Contracts of limb.is (whether slices have 1 to 8 elements), for one and for two slices. Contracts of package mask at words: zero, selection, the sign. The sign reads the package's table of two words. Contracts of the header's functions at requests without regions: the payload's length, the check of a request's length, the header's bytes, the numbers of points and queries. Contracts of the header's functions at requests without regions: the check of a request's length, the header's bytes, the numbers of points and queries. Rows of points and of queries: what they hold, index by index; bytes still to be read. Plain facts; no program's run. Contracts of the codec's each: at points; at no queries, at no records. The reference's codec at requests without regions: header, counts, encoding. Contract of the codec's Encode at requests without regions. The table of operations: a map from numbers to functions, made and asked. Contracts of slices.Clone at words, limb.Extend and limb.From: an integer of m limbs becomes one of n limbs with the same value, or is cut. Contracts of limb.Add, limb.Sub and limb.Neg: the limbs of the sum, the difference and the negation. The contract of limb.Mul: the limbs of the product. -/
import Derived.Test.YtjdiilkljgljkaaGreatDoorMa
import Derived.Deep.RegionHeld3
import Derived.Deep.RegionLaw
import Derived.Laws.AppendOwn
import Derived.OwnWalk
import Derived.Shelf.Spec.BitsCarry
import Derived.Deep.QuietTactic
import Derived.BigQuiet
import Derived.RegionTactic
import Derived.Scope
import Derived.Test.YtjdiilkljgljkaaGreatDoorProg
import Derived.Lib.Hide
import Derived.Laws.Externs
import Derived.MapKept
import Derived.WalkSpells
import Derived.Deep.AppendLies
import Derived.Deep.RegionWith
namespace Go.Proofs.YtjdiilkljgljkaaGreatDoor
set_option linter.unusedVariables false
set_option linter.unusedSimpArgs false
open Go.RowKit Wd

set_option maxHeartbeats 4000000 in
set_option maxRecDepth 100000 in
theorem ref18_point (base : Nat) (v : Value) (l : List Int) (x y : Int) (hl : l.length ≤ 900000) (w : World) (hb : base ≤ w.heap.size) (ho : OwB w base v l) :
    Calls Tryz.prog 52 #[v, .agg #[.int .i64 x, .int .i64 y]] w fun e w' => (∃ v', e = .returned v' ∧ OwB w' base v' (l ++ ptB x y)) ∧ Fr base none w w' := by
  have HLL := Lib.hid hl; have HO := Lib.hid ho; clear hl ho
  go_enter Tryz.func52, Tryz.ntmps52
  go_wp2_with fail
  have HX := Lib.hid (Bx.new w #[.int .i64 x, .int .i64 y] 23)
  have HO1 := Lib.hid (HO.out.alloc (.cells #[.int .i64 x, .int .i64 y] 23))
  have F1 := Lib.hid ((Fr.refl base none w).alloc hb (.cells #[.int .i64 x, .int .i64 y] 23))
  have hb1 : base ≤ (w.alloc (.cells #[.int .i64 x, .int .i64 y] 23)).heap.size := Nat.le_trans hb F1.out.size
  have HB1 := Lib.hid hb1
  clear hb1 HO
  generalize w.alloc (.cells #[.int .i64 x, .int .i64 y] 23) = w1 at *
  have QC := Lib.hid (show ∀ w', Bx w' w.heap.size #[.int .i64 x, .int .i64 y] 23 → w'.cell? ⟨w.heap.size, 0, none⟩ = some (.int .i64 x) ∧ w'.cell? ⟨w.heap.size, 1, none⟩ = some (.int .i64 y) from fun w' h => ⟨h.cell 0 rfl, h.cell 1 rfl⟩)
  refine wp_region_held_drew (S := fun w' => w'.cell? ⟨w.heap.size, 0, none⟩ = some (.int .i64 x) ∧ w'.cell? ⟨w.heap.size, 1, none⟩ = some (.int .i64 y)) (by kernel_rfl) (QC.out _ HX.out) (fun hHeld => ?_)
  refine wpAnyH_take (i := 0) (v := ?_) (by simp only [List.getElem?_toArray, List.getElem?_cons_succ, List.getElem?_cons_zero]; rfl) (by kernel_rfl) (by kernel_rfl) (by kernel_rfl) (by intro _ _ _ h; exact h) (Or.inl ⟨by rfl, ?_⟩) hHeld ?_
  rotate_left 1
  · intro w hSw; (try dsimp only at hSw); go_simp; try with_reducible rfl
  try simp only [Act.put, List.setIfInBounds_toArray, List.set_cons_zero, List.set_cons_succ]
  refine wpAnyH_take (i := 1) (v := ?_) (by simp only [List.getElem?_toArray, List.getElem?_cons_succ, List.getElem?_cons_zero]; rfl) (by kernel_rfl) (by kernel_rfl) (by kernel_rfl) (by intro _ _ _ h; exact h) (Or.inl ⟨by rfl, ?_⟩) hHeld ?_
  rotate_left 1
  · intro w hSw; (try dsimp only at hSw); go_simp; try with_reducible rfl
  try simp only [Act.put, List.setIfInBounds_toArray, List.set_cons_zero, List.set_cons_succ]
  refine wpAnyH_take (i := 2) (v := ?_) (by simp only [List.getElem?_toArray, List.getElem?_cons_succ, List.getElem?_cons_zero]; rfl) (by kernel_rfl) (by kernel_rfl) (by kernel_rfl) (by intro _ _ _ h; exact h) (Or.inl ⟨by rfl, ?_⟩) hHeld ?_
  rotate_left 1
  · intro w hSw; (try dsimp only at hSw); go_simp; try with_reducible rfl
  try simp only [Act.put, List.setIfInBounds_toArray, List.set_cons_zero, List.set_cons_succ]
  refine wpAnyH_take (i := 3) (v := ?_) (by simp only [List.getElem?_toArray, List.getElem?_cons_succ, List.getElem?_cons_zero]; rfl) (by kernel_rfl) (by kernel_rfl) (by kernel_rfl) (by intro _ _ _ h; exact h) (Or.inl ⟨by rfl, ?_⟩) hHeld ?_
  rotate_left 1
  · intro w hSw; (try dsimp only at hSw); go_simp; try with_reducible rfl
  try simp only [Act.put, List.setIfInBounds_toArray, List.set_cons_zero, List.set_cons_succ]
  refine wpAnyH_take (i := 5) (v := ?_) (by simp only [List.getElem?_toArray, List.getElem?_cons_succ, List.getElem?_cons_zero]; rfl) (by kernel_rfl) (by kernel_rfl) (by kernel_rfl) (by intro _ _ _ h; exact h) (Or.inl ⟨by rfl, ?_⟩) hHeld ?_
  rotate_left 1
  · intro w hSw; (try dsimp only at hSw); go_simp; try with_reducible rfl
  try simp only [Act.put, List.setIfInBounds_toArray, List.set_cons_zero, List.set_cons_succ]
  refine wpAnyH_take (i := 6) (v := ?_) (by simp only [List.getElem?_toArray, List.getElem?_cons_succ, List.getElem?_cons_zero]; rfl) (by kernel_rfl) (by kernel_rfl) (by kernel_rfl) (by intro _ _ _ h; exact h) (Or.inl ⟨by rfl, ?_⟩) hHeld ?_
  rotate_left 1
  · intro w hSw; (try dsimp only at hSw); go_simp; try with_reducible rfl
  try simp only [Act.put, List.setIfInBounds_toArray, List.set_cons_zero, List.set_cons_succ]
  refine wpAnyH_take (i := 7) (v := ?_) (by simp only [List.getElem?_toArray, List.getElem?_cons_succ, List.getElem?_cons_zero]; rfl) (by kernel_rfl) (by kernel_rfl) (by kernel_rfl) (by intro _ _ _ h; exact h) (Or.inl ⟨by rfl, ?_⟩) hHeld ?_
  rotate_left 1
  · intro w hSw; (try dsimp only at hSw); go_simp; try with_reducible rfl
  try simp only [Act.put, List.setIfInBounds_toArray, List.set_cons_zero, List.set_cons_succ]
  refine wpAnyH_ready (rs := [4]) (by kernel_rfl) (by simp) ?_
  refine AllReadyH.cons (by simp only [List.getElem?_toArray, List.getElem?_cons_succ, List.getElem?_cons_zero]; rfl) (fun K hK => ?_) AllReadyH.nil
  go_simp
  refine (ref18_word base v l (IntKind.u64.wrap x) (isW_wrap _) (by have := HLL.out; omega) w1.drew HB1.out HO1.out.drew).mono ?_
  rintro e w2 ⟨⟨v2, rfl, h2⟩, g2⟩
  have HO2 := Lib.hid h2; have F2 := Lib.hid (F1.out.drew.trans g2); have HX2 := Lib.hid (g2.keep _ _ _ (by decide) (by simp) (bx_dr HX.out)); have HB2 := Lib.hid (Nat.le_trans HB1.out g2.size); clear h2 g2
  go_wp2_with fail
  refine hK.out _ _ (QC.out _ HX2.out) (fun hHeld2 => ?_)
  clear hK K hHeld; have hHeld := hHeld2; clear hHeld2
  try simp only [Act.put, List.setIfInBounds_toArray, List.set_cons_zero, List.set_cons_succ]
  refine wpAnyH_ready (rs := [8]) (by kernel_rfl) (by simp) ?_
  refine AllReadyH.cons (by simp only [List.getElem?_toArray, List.getElem?_cons_succ, List.getElem?_cons_zero]; rfl) (fun K hK => ?_) AllReadyH.nil
  go_simp
  refine (ref18_word base v2 _ (IntKind.u64.wrap y) (isW_wrap _) (by have := HLL.out; simp [le8_len]; omega) _ HB2.out HO2.out).mono ?_
  rintro e w3 ⟨⟨v3, rfl, h3⟩, g3⟩
  have HO3 := Lib.hid h3; have F3 := Lib.hid (F2.out.trans g3); have HX3 := Lib.hid (g3.keep _ _ _ (by decide) (by simp) HX2.out); clear h3 g3
  go_wp2_with fail
  refine hK.out _ _ (QC.out _ HX3.out) (fun hHeld2 => ?_)
  clear hK K hHeld; have hHeld := hHeld2; clear hHeld2
  try simp only [Act.put, List.setIfInBounds_toArray, List.set_cons_zero, List.set_cons_succ]
  refine wpAnyH_take (i := 9) (v := ?_) (by simp only [List.getElem?_toArray, List.getElem?_cons_succ, List.getElem?_cons_zero]; rfl) (by kernel_rfl) (by kernel_rfl) (by kernel_rfl) (by intro _ _ _ h; exact h) (Or.inl ⟨by rfl, ?_⟩) hHeld ?_
  rotate_left 1
  · intro w hSw; (try dsimp only at hSw); go_simp; try with_reducible rfl
  try simp only [Act.put, List.setIfInBounds_toArray, List.set_cons_zero, List.set_cons_succ]
  refine wpAnyH_done (by kernel_rfl) ?_ _
  clear hHeld
  go_wp2_with fail
  go_ret
  refine ⟨⟨_, rfl, ?_⟩, F3.out⟩
  have := HO3.out
  rw [wrapU, wrapU, List.append_assoc] at this
  exact this
end Go.Proofs.YtjdiilkljgljkaaGreatDoor
namespace Go.Proofs.YtjdiilkljgljkaaGreatDoor
set_option linter.unusedVariables false
open Go

theorem step_append_own {P : Program} {ops : Array Oper} {o : Oper} {a : Act} {w : World} {K : Act → World → Prop} {Q : Exit → Act → World → Prop} {E : Prop}
    (hg : o.guard = none) (s x : Operand) (t : TypeId) (hop : o.op = Op.call { callee := Callee.builtin Builtin.append, args := #[s, x], argTypes := #[t, t] })
    (base : Nat) (e : TypeId) (i : TypeInfo) (z : Value) (size bytes : Nat) (h1 : P.underlying t = some (.slice e)) (h2 : P.info? e = some i) (h3 : i.zero = some z) (h4 : i.size = size) (h5 : i.bytes = bytes) (h6 : z.cells.size = size) (h7 : 0 < size)
    (v : Value) (k : Nat) (xs : List Value) (hs : a.eval s = v) (hown : w.ownsRow base e size v k xs) (ad : Addr) (m c : Nat) (news : List Value) (hx : a.eval x = .slice (some ad) m c) (hn : news.length = m * size)
    (hc : ∀ j u, news[j]? = some u → w.cell? (ad.add j) = some u) (h1c : ∀ u ∈ news, u.oneCell' = true) (b1 : k + m ≤ maxLen) (b2 : (k + m) * bytes ≤ 140737488355328) (b3 : base ≤ w.heap.size)
    (hK : ∀ v' w', w'.ownsRow base e size v' (k + m) (xs ++ news) → w.grownBy w' v.ownBlock → K (a.put o.dst v') w') :
    if Region.wanted o (yielded ops a.tmps) = true then Oper.wp P o a w K Q else E := by
  have hw : Region.wanted o (yielded ops a.tmps) = true := by simp [Region.wanted, hg]
  rw [if_pos hw]
  obtain ⟨v', w', hrun, r1, r2, _⟩ := run_append_own (P := P) w base t o.type e i z size bytes h1 h2 h3 h4 h5 h6 h7 v k xs hown ad m c news hn hc h1c b1 b2 b3
  subst hs
  unfold Oper.wp
  simp [execOp, hop, resolve, invoke, builtin, hx, hrun, Result.andThen]
  exact hK _ _ r1 r2
end Go.Proofs.YtjdiilkljgljkaaGreatDoor
namespace Go.Proofs.YtjdiilkljgljkaaGreatDoor
set_option linter.unusedVariables false
set_option linter.unusedSimpArgs false
open Go.RowKit Wd

/-- block bw is a writer that holds these bytes in a row of the call's own, from block base on -/
def Wr (w : World) (base bw : Nat) (l : List Int) : Prop := base ≤ bw ∧ ∃ v, Bx w bw #[v] 142 ∧ OwB w base v l
theorem Wr.below {w w' : World} {base bw B : Nat} {l : List Int} (h : Wr w base bw l) (hb : Below B w w') (hB : w.heap.size ≤ B) : Wr w' base bw l := by
  obtain ⟨h1, v, h2, h3⟩ := h; exact ⟨h1, v, h2.below hb hB, h3.below hb hB⟩
theorem byt_shift {x : Int} {k : Nat} (hk : k < 8) : x / 2 ^ (8 * (k : Int)).toNat = x / 256 ^ k := by
  rw [show (8 * (k : Int)).toNat = 8 * k by omega, Int.pow_mul]; rfl
set_option maxHeartbeats 4000000 in
set_option maxRecDepth 100000 in
theorem writer_word (base bw : Nat) (l : List Int) (x : Int) (hx : IsW x) (hl : l.length ≤ 1000000) (w : World) (hb : base ≤ w.heap.size) (hw : Wr w base bw l) :
    Calls Tryz.prog 124 #[.pointer (some ⟨bw, 0, none⟩), .int .u64 x] w fun e w' => e = .returned (.tuple #[]) ∧ Wr w' base bw (l ++ le8 x) ∧ Fr base (some bw) w w' := by
  obtain ⟨i0, hi0, hz0, hz1, hz2⟩ := info_parts infoB
  have HW := Lib.hid hw; have HX := Lib.hid hx; have HLL := Lib.hid hl; clear hw hx hl
  go_enter Tryz.func124, Tryz.ntmps124
  go_wp2_with fail
  go_loopw [5] (fun ir wr => ∃ k : Nat, k ≤ 8 ∧ ir = .int .i64 (k : Int) ∧ Wr wr base bw (l ++ bytL x k) ∧ Fr base (some bw) w wr) (fun i _ => 8 - (intOf i).toNat)
  case atStart => exact ⟨0, Nat.zero_le _, rfl, by simpa [bytL] using HW.out, Fr.refl _ _ _⟩
  case round =>
    obtain ⟨k, hk, rfl, hwr, hbr⟩ := hrel
    have HBR := Lib.hid hbr; clear hbr
    by_cases hlt : k < 8
    · obtain ⟨hbb, v, hbx, hov⟩ := hwr
      obtain ⟨A, c, rfl⟩ := hov.slice
      have hlen : (l ++ bytL x k).length = l.length + k := by simp [bytL_len]
      rw [hlen] at hbx hov
      have hown : wr.ownsRow base 5 1 (.slice A (l.length + k) c) (l.length + k) (bCells (l ++ bytL x k)) := by have := hov; unfold OwB at this; rw [hlen] at this; exact this
      have hsz : base ≤ wr.heap.size := Nat.le_trans hb HBR.out.size
      have HOWN := Lib.hid hown; have FW := Lib.hid hbx; have HBB := Lib.hid hbb; have HLN := Lib.hid hlen; have HSZ := Lib.hid hsz
      have hlw := hbx.lt
      have hne : ¬ (wr.heap.size = bw) := by omega
      have c0 := hbx.cell 0 (v := .slice A (l.length + k) c) rfl
      clear hbb hbx hov hown hlen hsz
      have hsh := byt_shift (x := x) hlt
      have hwy := isW_div HX.out k
      generalize hy : x / 256 ^ k = y at *
      have HY := Lib.hid hy; clear hy
      have hq : 0 ≤ x := HX.out.1
      have e1 := wrapU8 y
      have e2 : IntKind.i64.wrap (8 * (k : Int)) = 8 * (k : Int) := by rw [IntKind.wrap_i64]; omega
      go_wp2_with fail
      have HC := Lib.hid (cells_one_new wr.drew (.int .u8 (y % 256)) 5)
      have HB1 := Lib.hid (show Bx (wr.drew.alloc (.cells #[.int .u8 (y % 256)] 5)) bw #[.slice A (l.length + k) c] 142 from (bx_dr FW.out).alloc _)
      have HF1 := Lib.hid (show Fr base (some bw) w (wr.drew.alloc (.cells #[.int .u8 (y % 256)] 5)) from HBR.out.drew.alloc HSZ.out _)
      have HO1 := Lib.hid (show (wr.drew.alloc (.cells #[.int .u8 (y % 256)] 5)).ownsRow base 5 1 (.slice A (l.length + k) c) (l.length + k) (bCells (l ++ bytL x k)) from (HOWN.out.drew).alloc _)
      have HSZ1 := Lib.hid (show base ≤ (wr.drew.alloc (.cells #[.int .u8 (y % 256)] 5)).heap.size from Nat.le_trans HSZ.out (by simp))
      go_region_law ((refine step_append_own rfl _ _ 24 rfl base 5 i0 (.int .u8 0) 1 1 Tryz.underlying24 hi0 hz0 hz1 hz2 rfl (by decide) _ _ _ rfl HO1.out ⟨wr.heap.size, 0, none⟩ 1 1 [.int .u8 (y % 256)] rfl rfl HC.out (one_oneCell _ _) (by have := HLL.out; unfold maxLen; omega) (by have := HLL.out; omega) HSZ1.out ?_; intro v' w2 hown2 hgrow; obtain ⟨g2, cap2, rfl, -, -⟩ := hown2.form (by omega); have HB2 := Lib.hid (bx_grownB HB1.out (by decide) hgrow HO1.out); have HF2 := Lib.hid (HF1.out.grown hgrow HO1.out HSZ1.out); have HO2 := Lib.hid hown2; clear hown2 hgrow c0; have c0 := HB2.out.cell 0 (v := .slice A (l.length + k) c) rfl; have z0 := HB2.out.free 0))
      all_goals
        have HO3 := Lib.hid (show OwB w2 base (.slice (some ⟨g2, 0, none⟩) (l.length + k + 1) cap2) (l ++ bytL x (k + 1)) from by
          rw [bytL_succ, ← List.append_assoc]
          refine OwB.snoc (n := l.length + k + 1) ?_ (by rw [HLN.out])
          unfold byt; rw [HY.out]; exact HO2.out)
        have HF3 := Lib.hid (HF2.out.setEx (i := 0) (v := .slice (some ⟨g2, 0, none⟩) (l.length + k + 1) cap2) HBB.out)
        have HWR := Lib.hid (show Wr (w2.setCell ⟨bw, 0, none⟩ (.slice (some ⟨g2, 0, none⟩) (l.length + k + 1) cap2)) base bw (l ++ bytL x (k + 1)) from ⟨HBB.out, _, HB2.out.set 0 _, HO3.out.setOther HB2.out (by decide)⟩)
        clear HO3 HO2 HB2 HF2 HB1 HO1 HF1 HC
        go_wp2_with fail
        go_roundw
        case rel => exact ⟨k + 1, by omega, by go_num, HWR.out, HF3.out⟩
        case measure => simp [intOf]; omega
    · obtain rfl : k = 8 := by omega
      have HWR := Lib.hid hwr; clear hwr
      go_wp2_with fail
      go_end0
      exact ⟨rfl, HWR.out, HBR.out⟩
end Go.Proofs.YtjdiilkljgljkaaGreatDoor
namespace Go.Proofs.YtjdiilkljgljkaaGreatDoor
set_option linter.unusedVariables false
set_option linter.unusedSimpArgs false
open Go.RowKit Wd

theorem Wr.lt {w : World} {base bw : Nat} {l : List Int} (h : Wr w base bw l) : bw < w.heap.size := by obtain ⟨_, v, h2, _⟩ := h; exact h2.lt
theorem Wr.alloc {w : World} {base bw : Nat} {l : List Int} (h : Wr w base bw l) (o : Obj) : Wr (w.alloc o) base bw l :=
  h.below ((Below.refl w.heap.size w).alloc (Nat.le_refl _) o) (Nat.le_refl _)
theorem Wr.drew {w : World} {base bw : Nat} {l : List Int} (h : Wr w base bw l) : Wr w.drew base bw l := h.below (Below.refl w.heap.size w).drew (Nat.le_refl _)
set_option maxHeartbeats 4000000 in
set_option maxRecDepth 100000 in
theorem writer_point (base bw : Nat) (l : List Int) (x y : Int) (hl : l.length ≤ 900000) (w : World) (hb : base ≤ w.heap.size) (hw : Wr w base bw l) :
    Calls Tryz.prog 114 #[.pointer (some ⟨bw, 0, none⟩), .agg #[.int .i64 x, .int .i64 y]] w fun e w' => e = .returned (.tuple #[]) ∧ Wr w' base bw (l ++ ptB x y) ∧ Fr base (some bw) w w' := by
  have HLL := Lib.hid hl; have HW := Lib.hid hw; have HLT := Lib.hid hw.lt; clear hl hw
  go_enter Tryz.func114, Tryz.ntmps114
  go_wp2_with fail
  have HX := Lib.hid (Bx.new w #[.int .i64 x, .int .i64 y] 23)
  have HW1 := Lib.hid (HW.out.alloc (.cells #[.int .i64 x, .int .i64 y] 23))
  have F1 := Lib.hid ((Fr.refl base (some bw) w).alloc hb (.cells #[.int .i64 x, .int .i64 y] 23))
  have HNE := Lib.hid (show some w.heap.size ≠ some bw from by have := HLT.out; simp; omega)
  generalize w.alloc (.cells #[.int .i64 x, .int .i64 y] 23) = w1 at *
  have HB1 := Lib.hid (Nat.le_trans hb F1.out.size)
  clear HW HLT
  refine (writer_word base bw l (IntKind.u64.wrap x) (isW_wrap _) (by have := HLL.out; omega) _ HB1.out HW1.out).mono ?_
  rintro e w2 ⟨rfl, h2, g2⟩
  have HW2 := Lib.hid h2; have F2 := Lib.hid (F1.out.trans g2); have HX2 := Lib.hid (g2.keep _ _ _ (by decide) HNE.out HX.out); have HB2 := Lib.hid (Nat.le_trans HB1.out g2.size); clear h2 g2 HW1 HX F1
  have c1 := HX2.out.cell 1 (v := .int .i64 y) rfl
  go_wp2_with fail
  clear c1
  refine (writer_word base bw _ (IntKind.u64.wrap y) (isW_wrap _) (by have := HLL.out; simp [le8_len]; omega) _ HB2.out HW2.out).mono ?_
  rintro e w3 ⟨rfl, h3, g3⟩
  have HW3 := Lib.hid h3; have F3 := Lib.hid (F2.out.trans g3); clear h3 g3
  go_wp2_with fail
  go_end0
  refine ⟨rfl, ?_, F3.out⟩
  have := HW3.out
  rw [wrapU, wrapU, List.append_assoc] at this
  exact this
/-- the bytes of a query -/
def quB (x y d : Int) : List Int := ptB x y ++ le8 d
theorem quB_len (x y d : Int) : (quB x y d).length = 24 := by simp [quB, ptB_len, le8_len]
end Go.Proofs.YtjdiilkljgljkaaGreatDoor
namespace Go.Proofs.YtjdiilkljgljkaaGreatDoor
set_option linter.unusedVariables false
set_option linter.unusedSimpArgs false
open Go.RowKit Wd

def isB (x : Int) : Prop := 0 ≤ x ∧ x ≤ 255
theorem byt_isB (x : Int) (i : Nat) : isB (byt x i) := by unfold isB byt; omega
/-- block br is a reader whose bytes to come are these -/
def Rd (w : World) (br : Nat) (l : List Int) : Prop := ∃ A c, Bx w br #[.slice A l.length c] 131 ∧ By w A c l ∧ ∀ a, A = some a → a.block < br
theorem Rd.lt {w : World} {br : Nat} {l : List Int} (h : Rd w br l) : br < w.heap.size := by obtain ⟨A, c, h1, _⟩ := h; exact h1.lt
theorem Rd.below {w w' : World} {br B : Nat} {l : List Int} (h : Rd w br l) (hb : Below B w w') (hB : w.heap.size ≤ B) : Rd w' br l := by
  obtain ⟨A, c, h1, h2, h3⟩ := h; exact ⟨A, c, h1.below hb hB, h2.below hb hB, h3⟩
theorem Rd.alloc {w : World} {br : Nat} {l : List Int} (h : Rd w br l) (o : Obj) : Rd (w.alloc o) br l := h.below ((Below.refl w.heap.size w).alloc (Nat.le_refl _) o) (Nat.le_refl _)
theorem Rd.drew {w : World} {br : Nat} {l : List Int} (h : Rd w br l) : Rd w.drew br l := h.below (Below.refl w.heap.size w).drew (Nat.le_refl _)
/-- slices whose cells are other than block br's stay -/
theorem by_gr {w w' : World} {br : Nat} {A : Option Addr} {c : Nat} {l : List Int} {X : Option Addr} {n m : Nat} {t : TypeId} (h : By w A c l) (hb : Bx w br #[.slice X n m] t) (hg : w.grownBy w' (some br)) : By w' A c l :=
  ⟨h.cap, h.max, fun h0 => by
    obtain ⟨b, off, e, hlt, hc⟩ := h.at_ h0
    have hne : b ≠ br := fun e2 => by
      subst e2
      have hx : l[0]? = some (l[0]'h0) := List.getElem?_eq_getElem h0
      have h1 := hc 0 _ hx
      unfold Bx at hb
      simp only [World.cell?, hb] at h1
      rcases Nat.eq_zero_or_pos (off + 0) with h2 | h2
      · simp [h2] at h1
      · rw [Array.getElem?_eq_none (by simp; omega)] at h1; simp at h1
    refine ⟨b, off, e, Nat.lt_of_lt_of_le hlt hg.size, fun i x hi => ?_⟩
    exact (World.cell?_of_block (w := w) (w' := w') (a := ⟨b, off + i, none⟩) (hg.block b hlt (by simpa using hne))).trans (hc i x hi)⟩
theorem below_gr {w w' w0 : World} {br B : Nat} (h : Below B w0 w) (hB : B ≤ br) (hs : B ≤ w.heap.size) (hg : w.grownBy w' (some br)) : Below B w0 w' := h.grown hg hs (fun k e => by cases e; exact hB)
theorem gr_set (w : World) (br i : Nat) (v : Value) : w.grownBy (w.setCell ⟨br, i, none⟩ v) (some br) :=
  ⟨rfl, rfl, rfl, by simp [World.setCell], fun k hk hne => Below.heap_setCell _ _ _ _ (by simpa using hne)⟩
theorem By.tail {w : World} {b off c : Nat} {y : Int} {l : List Int} (h : By w (some ⟨b, off, none⟩) c (y :: l)) : By w (if c = 1 then some ⟨b, off, none⟩ else some ⟨b, off + 1, none⟩) (c - 1) l :=
  ⟨by have := h.cap; simp at this; omega, by have := h.max; omega, fun h0 => by
    obtain ⟨b', o', e, hlt, hc⟩ := h.at_ (by simp)
    obtain ⟨rfl, rfl⟩ : b = b' ∧ off = o' := by simpa using e
    have hcp := h.cap
    simp at hcp
    rw [if_neg (by omega)]
    refine ⟨b, off + 1, rfl, hlt, fun i x hi => ?_⟩
    have := hc (i + 1) x (by simpa using hi)
    rw [← Nat.add_assoc, Nat.add_right_comm] at this; exact this⟩
set_option maxHeartbeats 4000000 in
set_option maxRecDepth 100000 in
theorem reader_byte (br : Nat) (y : Int) (l : List Int) (w : World) (hr : Rd w br (y :: l)) :
    Calls Tryz.prog 132 #[.pointer (some ⟨br, 0, none⟩)] w fun e w' => e = .returned (.int .u8 y) ∧ Rd w' br l ∧ w.grownBy w' (some br) := by
  obtain ⟨A, c, hb, hy, hbr⟩ := hr
  obtain ⟨b, off, rfl, hlt, hc⟩ := hy.at_ (by simp)
  have HBR := Lib.hid (show b < br from hbr _ rfl); clear hbr
  have HB := Lib.hid hb; have HY := Lib.hid hy
  have c0 := hb.cell 0 (v := .slice (some ⟨b, off, none⟩) (y :: l).length c) rfl
  have z0 := hb.free 0
  have c1 := hc 0 y rfl
  rw [Nat.add_zero] at c1
  have hcp := hy.cap
  have hmx := hy.max
  have HMX := Lib.hid hmx
  unfold maxLen at hmx
  simp only [List.length_cons] at c0 hcp
  clear hb hy hc
  have HRD := Lib.hid (show ∀ w', (Bx w' br #[.slice (if c = 1 then some ⟨b, off, none⟩ else some ⟨b, off + 1, none⟩) l.length (c - 1)] 131) → w.grownBy w' (some br) → Rd w' br l from fun w' h1 h2 => ⟨_, _, h1, by_gr HY.out.tail HB.out h2, fun a ha => by split at ha <;> (cases ha; exact HBR.out)⟩)
  by_cases hc1 : c = 1
  · have hln : l.length = 0 := by omega
    rw [if_pos hc1] at HRD
    have HLN := Lib.hid hln
    go_enter Tryz.func132, Tryz.ntmps132
    go_wp2_with fail
    go_ret
    exact ⟨rfl, HRD.out _ (by have := HB.out.set 0 (.slice (some ⟨b, off, none⟩) l.length (c - 1)); simpa [HLN.out, hc1] using this) (gr_set _ _ _ _), gr_set _ _ _ _⟩
  · rw [if_neg hc1] at HRD
    go_enter Tryz.func132, Tryz.ntmps132
    go_wp2_with fail
    go_ret
    exact ⟨rfl, HRD.out _ (HB.out.set 0 _) (gr_set _ _ _ _), gr_set _ _ _ _⟩
theorem le8_drop (x : Int) {k : Nat} (hk : k < 8) : (le8 x).drop k = byt x k :: (le8 x).drop (k + 1) := by
  have hl : k < (le8 x).length := by rw [le8_len]; exact hk
  rw [List.drop_eq_getElem_cons hl]
  simp [le8, bytL]
theorem pow256 (k : Nat) : (256 : Nat) ^ k = 2 ^ (8 * k) := by rw [Nat.pow_mul]
theorem word_or {x : Int} (hx : IsW x) {k : Nat} (hk : k < 8) : IntKind.u64.wrap (byt x k * 2 ^ (8 * (k : Int)).toNat) = byt x k * 256 ^ k ∧ bits .or .u64 (x % 256 ^ k) (byt x k * 256 ^ k) = x % 256 ^ (k + 1) := by
  obtain ⟨n, rfl⟩ := Int.eq_ofNat_of_zero_le hx.1
  have hn : n < 18446744073709551616 := by have := hx.2; omega
  have e0 : (8 * (k : Int)).toNat = 8 * k := by omega
  have hp : (256 : Nat) ^ k * 256 ≤ 18446744073709551616 := by
    have h1 : (256 : Nat) ^ (k + 1) ≤ 256 ^ 8 := Nat.pow_le_pow_right (by decide) (by omega)
    rw [Nat.pow_succ] at h1
    exact Nat.le_trans h1 (by decide)
  have eb : byt (n : Int) k = ((n / 256 ^ k % 256 : Nat) : Int) := by unfold byt; simp
  have em : ((n : Int) % 256 ^ k) = ((n % 256 ^ k : Nat) : Int) := by simp
  have em1 : ((n : Int) % 256 ^ (k + 1)) = ((n % 256 ^ (k + 1) : Nat) : Int) := by simp
  have ep : (2 : Int) ^ (8 * k) = ((256 ^ k : Nat) : Int) := by rw [pow256]; simp
  have ep2 : (256 : Int) ^ k = ((256 ^ k : Nat) : Int) := by simp
  have hb : n / 256 ^ k % 256 * 256 ^ k < 18446744073709551616 := by
    have h1 : n / 256 ^ k % 256 < 256 := Nat.mod_lt _ (by decide)
    have h2 : n / 256 ^ k % 256 * 256 ^ k ≤ 255 * 256 ^ k := Nat.mul_le_mul_right _ (by omega)
    have h3 : 0 < (256 : Nat) ^ k := Nat.pow_pos (by decide)
    omega
  constructor
  · rw [e0, eb, ep, ep2, ← Int.natCast_mul, IntKind.wrap_u64]
    omega
  · rw [eb, em, em1, ep2, ← Int.natCast_mul]
    have hm : n % 256 ^ k < 18446744073709551616 := by
      have h3 : 0 < (256 : Nat) ^ k := Nat.pow_pos (by decide)
      have := Nat.mod_lt n h3; omega
    rw [bits_or_u64_nat _ _ hm hb]
    congr 1
    have h4 : n % 256 ^ k < 2 ^ (8 * k) := by rw [← pow256]; exact Nat.mod_lt _ (Nat.pow_pos (by decide))
    rw [Nat.or_comm]
    have h5 := Nat.shiftLeft_add_eq_or_of_lt h4 (n / 256 ^ k % 256)
    rw [Nat.shiftLeft_eq, ← pow256] at h5
    rw [← h5, Nat.pow_succ, Nat.mod_mul, Nat.mul_comm (256 ^ k), Nat.add_comm]
theorem wrap_isB {x : Int} (h : isB x) : IntKind.u64.wrap x = x := by unfold isB at h; rw [IntKind.wrap_u64]; omega
set_option maxHeartbeats 4000000 in
set_option maxRecDepth 100000 in
theorem reader_word (br : Nat) (x : Int) (hx : IsW x) (l : List Int) (w : World) (hr : Rd w br (le8 x ++ l)) :
    Calls Tryz.prog 112 #[.pointer (some ⟨br, 0, none⟩)] w fun e w' => e = .returned (.int .u64 x) ∧ Rd w' br l ∧ w.grownBy w' (some br) := by
  have HR := Lib.hid hr; have HX := Lib.hid hx; clear hr hx
  go_enter Tryz.func112, Tryz.ntmps112
  go_wp2_with fail
  go_loopw [3, 5] (fun xr ir wr => ∃ k : Nat, k ≤ 8 ∧ ir = .int .i64 (k : Int) ∧ xr = .int .u64 (x % 256 ^ k) ∧ Rd wr br ((le8 x).drop k ++ l) ∧ w.grownBy wr (some br)) (fun _ i _ => 8 - (intOf i).toNat)
  case atStart => exact ⟨0, Nat.zero_le _, rfl, by simp [Int.emod_one], by simpa using HR.out, World.grownBy.refl _ _⟩
  case round =>
    obtain ⟨k, hk, rfl, rfl, hrd, hg⟩ := hrel
    have HRD := Lib.hid hrd; have HG := Lib.hid hg; clear hrd hg
    by_cases hlt : k < 8
    · have HRD2 := Lib.hid (show Rd wr br (byt x k :: ((le8 x).drop (k + 1) ++ l)) from by have := HRD.out; rw [le8_drop x hlt] at this; exact this)
      obtain ⟨s1, s2⟩ := word_or HX.out hlt
      have s3 := wrap_isB (byt_isB x k)
      have e2 : IntKind.i64.wrap (8 * (k : Int)) = 8 * (k : Int) := by rw [IntKind.wrap_i64]; omega
      have e3 : wrap64 (8 * (k : Int)) = 8 * (k : Int) := by rw [← IntWalk.i64_left]; exact e2
      generalize byt x k * 256 ^ k = q at *
      generalize hp : x % 256 ^ k = p at *
      generalize hp1 : x % 256 ^ (k + 1) = p1 at *
      have HP1 := Lib.hid hp1; clear hp hp1
      generalize byt x k = y at *
      clear HRD
      go_wp2_with fail
      refine (reader_byte br y _ _ HRD2.out).mono ?_
      rintro e w2 ⟨rfl, h2, g2⟩
      have HR2 := Lib.hid h2; have HG2 := Lib.hid (HG.out.trans g2); clear h2 g2
      go_wp2_with fail
      go_roundw
      case rel => exact ⟨k + 1, by omega, by go_num, by rw [HP1.out], HR2.out, HG2.out⟩
      case measure => simp [intOf]; omega
    · obtain rfl : k = 8 := by omega
      have hpx : x % 256 ^ 8 = x := by have := HX.out; unfold IsW at this; omega
      rw [hpx]
      have HR3 := Lib.hid (show Rd wr br l from by have := HRD.out; rw [List.drop_of_length_le (by rw [le8_len]; exact Nat.le_refl _)] at this; simpa using this)
      clear hpx
      go_wp2_with fail
      go_ret
      exact ⟨rfl, HR3.out, HG.out⟩
end Go.Proofs.YtjdiilkljgljkaaGreatDoor
namespace Go.Proofs.YtjdiilkljgljkaaGreatDoor
set_option linter.unusedVariables false
set_option linter.unusedSimpArgs false
open Go.RowKit Wd

theorem i64_lo {x : Int} (h : IsI x) : IntKind.i64.wrap (lo x) = x := by unfold IsI at h; unfold lo; rw [IntKind.wrap_i64]; omega
theorem by_keep {w w' : World} {b : Nat} {A : Option Addr} {c : Nat} {l : List Int} {cs : Array Value} {t : TypeId} (h : By w A c l) (hb : Bx w b cs t) (hn : ∀ u ∈ cs.toList, ∀ x, u ≠ .int .u8 x) (hg : w.grownBy w' (some b)) : By w' A c l :=
  ⟨h.cap, h.max, fun h0 => by
    obtain ⟨b', off, e, hlt, hc⟩ := h.at_ h0
    have hne : b' ≠ b := fun e2 => by
      subst e2
      have hx : l[0]? = some (l[0]'h0) := List.getElem?_eq_getElem h0
      have h1 := hc 0 _ hx
      unfold Bx at hb
      simp only [World.cell?, hb] at h1
      exact hn _ (by simpa using Array.mem_of_getElem? h1) _ rfl
    refine ⟨b', off, e, Nat.lt_of_lt_of_le hlt hg.size, fun i x hi => ?_⟩
    exact (World.cell?_of_block (w := w) (w' := w') (a := ⟨b', off + i, none⟩) (hg.block b' hlt (by simpa using hne))).trans (hc i x hi)⟩
theorem gr_new {w w' : World} {r : Option Nat} {b i : Nat} {v : Value} (h : w.grownBy w' r) (hb : w.heap.size ≤ b) : w.grownBy (w'.setCell ⟨b, i, none⟩ v) r :=
  ⟨h.os, h.tape, h.output, by have := h.size; simpa [World.setCell] using this, fun k hk hne => (Below.heap_setCell _ _ _ _ (by simp; omega)).trans (h.block k hk hne)⟩
theorem bx_gr {w w' : World} {br b : Nat} {cs : Array Value} {t : TypeId} (h : Bx w b cs t) (hne : b ≠ br) (hg : w.grownBy w' (some br)) : Bx w' b cs t := (hg.block b h.lt (by simpa using hne)).trans h
set_option maxHeartbeats 4000000 in
set_option maxRecDepth 100000 in
theorem reader_point (br : Nat) (x y : Int) (hx : IsI x) (hy : IsI y) (l : List Int) (w : World) (hr : Rd w br (ptB x y ++ l)) :
    Calls Tryz.prog 81 #[.pointer (some ⟨br, 0, none⟩)] w fun e w' => e = .returned (.agg #[.int .i64 x, .int .i64 y]) ∧ Rd w' br l ∧ w.grownBy w' (some br) := by
  have HR := Lib.hid hr; have HX := Lib.hid hx; have HY := Lib.hid hy; have HLT := Lib.hid hr.lt; clear hr hx hy
  go_enter Tryz.func81, Tryz.ntmps81
  go_wp2_with fail
  have HB := Lib.hid (Bx.new w #[.int .i64 0, .int .i64 0] 23)
  have HR1 := Lib.hid (show Rd (w.alloc (.cells #[.int .i64 0, .int .i64 0] 23)) br (le8 (lo x) ++ (le8 (lo y) ++ l)) from by have := HR.out.alloc (.cells #[.int .i64 0, .int .i64 0] 23); unfold ptB at this; rw [List.append_assoc] at this; exact this)
  have HG1 := Lib.hid (World.grownBy_alloc w (.cells #[.int .i64 0, .int .i64 0] 23) (some br))
  have HNE := Lib.hid (show w.heap.size ≠ br from by have := HLT.out; omega)
  generalize w.alloc (.cells #[.int .i64 0, .int .i64 0] 23) = w1 at *
  clear HR
  refine (reader_word br (lo x) (isW_lo _) _ _ HR1.out).mono ?_
  rintro e w2 ⟨rfl, h2, g2⟩
  have HR2 := Lib.hid h2; have HB2 := Lib.hid (bx_gr HB.out HNE.out g2); have HG2 := Lib.hid (HG1.out.trans g2); clear h2 g2 HR1 HB HG1
  have wi := i64_lo HX.out
  go_wp2_with fail
  clear wi
  refine (reader_word br (lo y) (isW_lo _) _ _ HR2.out).mono ?_
  rintro e w3 ⟨rfl, h3, g3⟩
  have HB3 := Lib.hid (bx_gr HB2.out HNE.out g3); have HR3 := Lib.hid h3; have HG3 := Lib.hid (HG2.out.trans g3); clear h3 g3 HR2 HB2 HG2
  have wi := i64_lo HY.out
  have c0 := HB3.out.cell 0 (v := .int .i64 0) rfl
  have c1 := HB3.out.cell 1 (v := .int .i64 0) rfl
  have z0 := HB3.out.free 0
  have z1 := HB3.out.free 1
  go_wp2_with fail
  clear wi c0 c1 z0 z1
  have HB4 := Lib.hid ((HB3.out.set 0 (.int .i64 x)).set 1 (.int .i64 y))
  have HR4 := Lib.hid (show Rd ((w3.setCell ⟨w.heap.size, 0, none⟩ (.int .i64 x)).setCell ⟨w.heap.size, 1, none⟩ (.int .i64 y)) br l from by
    obtain ⟨A, c, h1, h2, h3⟩ := HR3.out
    exact ⟨A, c, (h1.other _ (fun e => HNE.out e.symm)).other _ (fun e => HNE.out e.symm), by_keep (by_keep h2 HB3.out (by simp) (gr_set _ _ _ _)) (HB3.out.set 0 _) (by simp) (gr_set _ _ _ _), h3⟩)
  have HG4 := Lib.hid (gr_new (i := 1) (v := .int .i64 y) (gr_new (i := 0) (v := .int .i64 x) HG3.out (Nat.le_refl w.heap.size)) (Nat.le_refl w.heap.size))
  clear HB3 HR3 HG3
  generalize (w3.setCell ⟨w.heap.size, 0, none⟩ (.int .i64 x)).setCell ⟨w.heap.size, 1, none⟩ (.int .i64 y) = w4 at *
  have q0 := HB4.out.cell 0 (v := .int .i64 x) rfl
  have q1 := HB4.out.cell 1 (v := .int .i64 y) rfl
  refine bodyPost_ret (v := .agg #[.int .i64 x, .int .i64 y]) (by simp [results, Tryz.results81, go_sem, q0, q1]) rfl ⟨rfl, HR4.out, HG4.out⟩
end Go.Proofs.YtjdiilkljgljkaaGreatDoor
namespace Go.Proofs.YtjdiilkljgljkaaGreatDoor
set_option linter.unusedVariables false
set_option linter.unusedSimpArgs false
open Go.RowKit Wd

theorem below_drewN {w w' : World} (h : Below w.heap.size w w') {n : Nat} : Below w.heap.size w (w'.drewN n) := ⟨h.os, h.tape, h.output, h.size, h.block⟩
set_option maxHeartbeats 4000000 in
set_option maxRecDepth 100000 in
theorem header_Parse12 (A : Option Addr) (c : Nat) (op : Int) (ho : op = 1 ∨ op = 2) (l : List Int) (w : World) (hb : By w A c (op :: l)) :
    Calls Tryz.prog 78 #[.slice A (l.length + 1) c] w fun e w' => e = .returned (.tuple #[.agg #[.int .i64 op, .int .i64 0, .slice none 0 0, .int .i64 0], .int .i64 1, .int .i64 0]) ∧ Below w.heap.size w w' := by
  obtain ⟨b, off, rfl, hlt, hc⟩ := hb.at_ (by simp)
  have c1 := hc 0 op rfl
  rw [Nat.add_zero] at c1
  have hmx := hb.cap; have hm2 := hb.max
  simp only [List.length_cons] at hmx
  unfold maxLen at hm2
  clear hb hc
  generalize l.length = n at *
  obtain ⟨o, h⟩ : ∃ o, o = op := ⟨_, rfl⟩
  rw [← h]
  have HO := Lib.hid h
  rcases ho with e | e <;> (rw [e] at c1 h; clear HO; have HO := Lib.hid h; clear h e)
  all_goals
    go_enter Tryz.func78, Tryz.ntmps78
    go_wp2_with fail
    refine wp_scope_straight ?_
    go_wp2_with fail
    rw [Exit.noGoto_ret]
    refine bodyPost_ret (v := .tuple #[.agg #[.int .i64 o, .int .i64 0, .slice none 0 0, .int .i64 0], .int .i64 1, .int .i64 0]) (by simp [results, Tryz.results78, go_sem, HO.out]) rfl ⟨rfl, ?_⟩
    repeat (first | exact below_rf | (refine below_st ?_ ?_; (focus (first | (simp; done) | omega | (simp <;> omega)))) | refine below_al ?_)
set_option maxHeartbeats 4000000 in
set_option maxRecDepth 100000 in
theorem index_nil (F : Value) (n c : Nat) (w : World) :
    Calls Tryz.prog 131 #[.slice none 0 0, F] w fun e w' => e = .returned (.int .i64 (-1)) ∧ Below w.heap.size w w' := by
  go_enter Tryz.func131, Tryz.ntmps131
  go_wp2_with fail
  refine wp_loop_rounds 1 ?_
  rw [rounds_succ]
  go_wp2_with fail
  go_ret
  exact ⟨rfl, Below.refl _ _⟩
set_option maxHeartbeats 4000000 in
set_option maxRecDepth 100000 in
theorem contains_nil (F : Value) (w : World) :
    Calls Tryz.prog 109 #[.slice none 0 0, F] w fun e w' => e = .returned (.bool false) ∧ Below w.heap.size w w' := by
  go_enter Tryz.func109, Tryz.ntmps109
  go_wp2_with fail
  refine (index_nil F 0 0 _).mono ?_
  rintro e w' ⟨rfl, B⟩
  have HB := Lib.hid B; clear B
  go_wp2_with fail
  go_ret
  exact ⟨rfl, HB.out⟩
set_option maxHeartbeats 4000000 in
set_option maxRecDepth 100000 in
theorem header_check12 (op : Int) (ho : op = 1 ∨ op = 2) (w : World) :
    Calls Tryz.prog 123 #[.agg #[.int .i64 op, .int .i64 0, .slice none 0 0, .int .i64 0]] w fun e w' => e = .returned (.int .i64 0) ∧ Below w.heap.size w w' := by
  obtain ⟨o, rfl⟩ : ∃ o, o = op := ⟨_, rfl⟩
  rcases ho with h | h
  all_goals
    subst h
    go_enter Tryz.func123, Tryz.ntmps123
    go_wp2_with fail
    go_quiet (fail)
    go_wp2_with fail
    refine (contains_nil _ _).mono ?_
    rintro e w' ⟨rfl, B⟩
    have HB := Lib.hid (below_tr (below_drewN (below_al below_rf)) B); clear B
    go_wp2_with fail
    go_ret
    exact ⟨rfl, HB.out⟩
end Go.Proofs.YtjdiilkljgljkaaGreatDoor
namespace Go.Proofs.YtjdiilkljgljkaaGreatDoor
set_option linter.unusedVariables false
set_option linter.unusedSimpArgs false
open Go.RowKit Wd

theorem add64 (x y c : Int) (hx : IsW x) (hy : IsW y) (h0 : 0 ≤ c) (h1 : c ≤ 1) (w : World) :
    (callFunc 164 #[.int .u64 x, .int .u64 y, .int .u64 c]).run Tryz.prog w = .ok (.value (.tuple #[.int .u64 (lo (x + y + c)), .int .u64 ((x + y + c) / 18446744073709551616)])) w := by
  unfold IsW at hx hy
  rw [run_callFunc_extern Tryz.func164 (by kernel_rfl) (by kernel_rfl) (by kernel_rfl) (e := add64Entry) (by kernel_rfl), run_add64 x y c hx.1 hy.1 h0 h1]
  rfl
theorem sub64 (x y c : Int) (hx : IsW x) (hy : IsW y) (h0 : 0 ≤ c) (h1 : c ≤ 1) (w : World) :
    (callFunc 152 #[.int .u64 x, .int .u64 y, .int .u64 c]).run Tryz.prog w = .ok (.value (.tuple #[.int .u64 (lo (x - y - c)), .int .u64 (bor x y c)])) w := by
  unfold IsW at hx hy
  obtain ⟨n, rfl⟩ := Int.eq_ofNat_of_zero_le hx.1
  obtain ⟨m, rfl⟩ := Int.eq_ofNat_of_zero_le hy.1
  obtain ⟨k, rfl⟩ := Int.eq_ofNat_of_zero_le h0
  rw [run_callFunc_extern Tryz.func152 (by kernel_rfl) (by kernel_rfl) (by kernel_rfl) (e := sub64Entry) (by kernel_rfl), run_sub64 n m k (by omega)]
  have e1 : (((n + 18446744073709551616 - m - k) % 18446744073709551616 : Nat) : Int) = lo ((n : Int) - m - k) := by unfold lo; omega
  have e2 : ((if n < m + k then 1 else 0 : Nat) : Int) = bor n m k := by unfold bor; split <;> split <;> omega
  rw [e1, e2]
  rfl

theorem word_Add (a b c : Int) (ha : IsW a) (hb : IsW b) (hc : IsW c) (w : World) :
    Calls Tryz.prog 174 #[.int .u64 a, .int .u64 b, .int .u64 c] w fun e w' => e = .returned (.tuple #[.int .u64 (lo (a + b + c % 2)), .int .u64 ((a + b + c % 2) / 18446744073709551616)]) ∧ w = w' := by
  have h := add64 a b (bits .and .u64 c 1) ha hb (by rw [and_one hc]; omega) (by rw [and_one hc]; omega)
  rw [← and_one hc]
  go_enter Tryz.func174, Tryz.ntmps174
  go_wp2
  go_ret2
  exact ⟨rfl, rfl⟩

theorem word_Sub (a b c : Int) (ha : IsW a) (hb : IsW b) (hc : IsW c) (w : World) :
    Calls Tryz.prog 128 #[.int .u64 a, .int .u64 b, .int .u64 c] w fun e w' => e = .returned (.tuple #[.int .u64 (lo (a - b - c % 2)), .int .u64 (bor a b (c % 2))]) ∧ w = w' := by
  have h := sub64 a b (bits .and .u64 c 1) ha hb (by rw [and_one hc]; omega) (by rw [and_one hc]; omega)
  rw [← and_one hc]
  go_enter Tryz.func128, Tryz.ntmps128
  go_wp2
  go_ret2
  exact ⟨rfl, rfl⟩

namespace Mul64
theorem maskN (a : Nat) (ha : a < 18446744073709551616) : bits .and .u64 (a : Int) 4294967295 = ((a % 4294967296 : Nat) : Int) := by
  have h := bits_and_u64_nat a 4294967295 ha (by omega)
  have e : a &&& 4294967295 = a % 4294967296 := Nat.and_two_pow_sub_one_eq_mod a 32
  rw [e] at h
  exact h
theorem divN (a : Nat) : (a : Int) / 4294967296 = ((a / 4294967296 : Nat) : Int) := by omega
theorem mulN (a b : Nat) : (a : Int) * (b : Int) = ((a * b : Nat) : Int) := (Int.natCast_mul a b).symm
theorem addN (a b : Nat) : (a : Int) + (b : Int) = ((a + b : Nat) : Int) := (Int.natCast_add a b).symm
theorem wrapN (a : Nat) (ha : a < 18446744073709551616) : IntKind.u64.wrap (a : Int) = (a : Int) := by rw [IntKind.wrap_u64]; omega
theorem wrapM (a : Nat) : IntKind.u64.wrap (a : Int) = ((a % 18446744073709551616 : Nat) : Int) := by rw [IntKind.wrap_u64]; omega
end Mul64

set_option maxHeartbeats 1000000 in
theorem bits_Mul64_nat (x y : Nat) (hx : x < 18446744073709551616) (hy : y < 18446744073709551616) (w : World) :
    Calls Tryz.prog 163 #[.int .u64 x, .int .u64 y] w fun e w' => e = .returned (.tuple #[.int .u64 ((x * y / 18446744073709551616 : Nat) : Int), .int .u64 ((x * y % 18446744073709551616 : Nat) : Int)]) ∧ w = w' := by
  obtain ⟨bd, bt, bw, hhi⟩ := Lib.mul64_hi x y hx hy
  have ba := Lib.half_mul_le (a := x / 4294967296) (b := y / 4294967296) (by omega) (by omega)
  have bb := Lib.half_mul_le (a := x / 4294967296) (b := y % 4294967296) (by omega) (by omega)
  have bc := Lib.half_mul_le (a := x % 4294967296) (b := y / 4294967296) (by omega) (by omega)
  have ba' : x / 4294967296 * (y / 4294967296) < 18446744073709551616 := by omega
  have bb' : x / 4294967296 * (y % 4294967296) < 18446744073709551616 := by omega
  have bc' : x % 4294967296 * (y / 4294967296) < 18446744073709551616 := by omega
  have bh1 : x / 4294967296 * (y / 4294967296) + (x / 4294967296 * (y % 4294967296) + x % 4294967296 * (y % 4294967296) / 4294967296) / 4294967296 < 18446744073709551616 := by omega
  have bh : x / 4294967296 * (y / 4294967296) + (x / 4294967296 * (y % 4294967296) + x % 4294967296 * (y % 4294967296) / 4294967296) / 4294967296 + ((x / 4294967296 * (y % 4294967296) + x % 4294967296 * (y % 4294967296) / 4294967296) % 4294967296 + x % 4294967296 * (y / 4294967296)) / 4294967296 < 18446744073709551616 := by omega
  go_enter Tryz.func163, Tryz.ntmps163
  go_wp2
  simp only [Mul64.maskN x hx, Mul64.maskN y hy, Mul64.divN, Mul64.mulN, Mul64.addN, Mul64.wrapN _ bd, Mul64.wrapN _ bb', Mul64.wrapN _ bt, Mul64.maskN _ bt, Mul64.wrapN _ bc', Mul64.wrapN _ bw, Mul64.wrapN _ ba', Mul64.wrapN _ bh1, Mul64.wrapN _ bh, Mul64.wrapM (x * y)]
  rw [hhi]
  go_ret2
  exact ⟨rfl, rfl⟩

theorem bits_Mul64 (a b : Int) (ha : IsW a) (hb : IsW b) (w : World) :
    Calls Tryz.prog 163 #[.int .u64 a, .int .u64 b] w fun e w' => e = .returned (.tuple #[.int .u64 (hi (a * b)), .int .u64 (lo (a * b))]) ∧ w = w' := by
  have hm := isW_lt_mul ha hb
  unfold IsW at ha hb
  obtain ⟨n, rfl⟩ := Int.eq_ofNat_of_zero_le ha.1
  obtain ⟨m, rfl⟩ := Int.eq_ofNat_of_zero_le hb.1
  have e1 : hi ((n : Int) * m) = ((n * m / 18446744073709551616 : Nat) : Int) := by rw [← Int.natCast_mul] at *; unfold hi; omega
  have e2 : lo ((n : Int) * m) = ((n * m % 18446744073709551616 : Nat) : Int) := by rw [← Int.natCast_mul]; unfold lo; omega
  rw [e1, e2]
  exact bits_Mul64_nat n m (by omega) (by omega) w


set_option maxHeartbeats 400000 in
theorem word_MulAdd (a b c d : Int) (ha : IsW a) (hb : IsW b) (hc : IsW c) (hd : IsW d) (w : World) :
    Calls Tryz.prog 151 #[.int .u64 a, .int .u64 b, .int .u64 c, .int .u64 d] w fun e w' => e = .returned (.tuple #[.int .u64 (hi (a * b + c + d)), .int .u64 (lo (a * b + c + d))]) ∧ w = w' := by
  have hp := isW_lt_mul ha hb
  have hst := mulAdd_steps hp hc hd
  rw [← hst.1, ← hst.2]
  clear hst
  generalize hq : a * b = p at *
  have Hq := Lib.hid hq; clear hq
  have b1 := isW_lo p
  have b2 := isW_hi p
  have b3 := isW_lo (lo p + c)
  have b4 : 0 ≤ (lo p + c) / 18446744073709551616 ∧ (lo p + c) / 18446744073709551616 ≤ 1 := by unfold IsW at *; omega
  have b5 := isW_lo (hi p + (lo p + c) / 18446744073709551616)
  have b6 : 0 ≤ (lo (lo p + c) + d) / 18446744073709551616 ∧ (lo (lo p + c) + d) / 18446744073709551616 ≤ 1 := by unfold IsW at *; omega
  have z0 : IsW 0 := by unfold IsW; omega
  have h1 := add64 (lo p) c 0 b1 hc (by omega) (by omega)
  have h2 := add64 (hi p) 0 ((lo p + c) / 18446744073709551616) b2 z0 b4.1 b4.2
  have h3 := add64 (lo (lo p + c)) d 0 b3 hd (by omega) (by omega)
  have h4 := add64 (lo (hi p + (lo p + c) / 18446744073709551616)) 0 ((lo (lo p + c) + d) / 18446744073709551616) b5 z0 b6.1 b6.2
  simp only [Int.add_zero] at h1 h2 h3 h4
  clear b1 b2 b3 b4 b5 b6 z0 hp
  go_enter Tryz.func151, Tryz.ntmps151
  go_wp2_with (go_at_call 163; refine (bits_Mul64 _ _ ha hb _).mono ?_; rintro e w' ⟨rfl, rfl⟩; rw [Hq.out])
  go_ret2
  exact ⟨rfl, rfl⟩

theorem mask_Of (c : Int) (hc : IsW c) (w : World) :
    Calls Tryz.prog 101 #[.int .u64 c] w fun e w' => e = .returned (.int .u64 (msk (decide (c % 2 = 1)))) ∧ w = w' := by
  have h := msk_of hc
  rw [← h, ← wrapU]
  clear h
  go_enter Tryz.func101, Tryz.ntmps101
  go_wp2
  go_ret
  exact ⟨rfl, rfl⟩

theorem word_Fill (a : Int) (ha : IsW a) (w : World) :
    Calls Tryz.prog 72 #[.int .u64 a] w fun e w' => e = .returned (.int .u64 (msk (decide (9223372036854775808 ≤ a)))) ∧ w = w' := by
  have h := shr63 ha
  have e1 : (decide (9223372036854775808 ≤ a)) = decide ((a / 9223372036854775808) % 2 = 1) := by rw [decide_eq_decide]; exact h.2.2.symm
  rw [e1]
  have h1 := h.1
  clear h e1
  go_enter Tryz.func72, Tryz.ntmps72
  go_wp2_with (go_at_call 101; refine (mask_Of _ h1 _).mono ?_; rintro e w' ⟨rfl, rfl⟩)
  go_ret
  exact ⟨rfl, rfl⟩
end Go.Proofs.YtjdiilkljgljkaaGreatDoor
namespace Go.Proofs.YtjdiilkljgljkaaGreatDoor
set_option linter.unusedVariables false
set_option linter.unusedSimpArgs false
open Go.RowKit Wd

def isN (n : Nat) : Bool := decide (1 ≤ n ∧ n ≤ 8)
theorem isN_true {n : Nat} (h : isN n = true) : 1 ≤ n ∧ n ≤ 8 := by simpa [isN] using h
theorem limb_is1 (bb : Nat) (A : Option Addr) (n c : Nat) (hn : n ≤ maxLen) (w : World) (h0 : w.cell? ⟨bb, 0, none⟩ = some (.slice A n c)) :
    Calls Tryz.prog 70 #[.slice (some ⟨bb, 0, none⟩) 1 1] w fun e w' => e = .returned (.bool (isN n)) ∧ w = w' := by
  unfold maxLen at hn
  rcases (by omega : n < 1 ∨ (1 ≤ n ∧ n ≤ 8) ∨ 8 < n) with h | h | h
  · rw [show isN n = false from by simp [isN]; omega]
    go_enter Tryz.func70, Tryz.ntmps70
    go_wp2
    refine wp_loop_rounds 2 ?_
    rw [rounds_succ]
    go_wp2
    go_ret
    exact ⟨rfl, rfl⟩
  · rw [show isN n = true from by simp [isN]; omega]
    go_enter Tryz.func70, Tryz.ntmps70
    go_wp2
    refine wp_loop_rounds 2 ?_
    rw [rounds_succ]
    go_wp2
    rw [rounds_succ]
    go_wp2
    go_ret
    exact ⟨rfl, rfl⟩
  · rw [show isN n = false from by simp [isN]; omega]
    go_enter Tryz.func70, Tryz.ntmps70
    go_wp2
    refine wp_loop_rounds 2 ?_
    rw [rounds_succ]
    go_wp2
    go_ret
    exact ⟨rfl, rfl⟩

set_option maxHeartbeats 400000 in
theorem limb_is2 (bb : Nat) (A A' : Option Addr) (n c m c' : Nat) (hn : n ≤ maxLen) (hm : m ≤ maxLen) (w : World) (h0 : w.cell? ⟨bb, 0, none⟩ = some (.slice A n c)) (h1 : w.cell? ⟨bb, 1, none⟩ = some (.slice A' m c')) :
    Calls Tryz.prog 70 #[.slice (some ⟨bb, 0, none⟩) 2 2] w fun e w' => e = .returned (.bool (isN n && isN m)) ∧ w = w' := by
  unfold maxLen at hn hm
  rcases (by omega : n < 1 ∨ 8 < n ∨ ((1 ≤ n ∧ n ≤ 8) ∧ m < 1) ∨ ((1 ≤ n ∧ n ≤ 8) ∧ 8 < m) ∨ ((1 ≤ n ∧ n ≤ 8) ∧ 1 ≤ m ∧ m ≤ 8)) with h | h | h | h | h
  · rw [show (isN n && isN m) = false from by simp [isN]; omega]
    go_enter Tryz.func70, Tryz.ntmps70
    go_wp2
    refine wp_loop_rounds 3 ?_
    rw [rounds_succ]
    go_wp2
    go_ret
    exact ⟨rfl, rfl⟩
  · rw [show (isN n && isN m) = false from by simp [isN]; omega]
    go_enter Tryz.func70, Tryz.ntmps70
    go_wp2
    refine wp_loop_rounds 3 ?_
    rw [rounds_succ]
    go_wp2
    go_ret
    exact ⟨rfl, rfl⟩
  · rw [show (isN n && isN m) = false from by simp [isN]; omega]
    go_enter Tryz.func70, Tryz.ntmps70
    go_wp2
    refine wp_loop_rounds 3 ?_
    rw [rounds_succ]
    go_wp2
    rw [rounds_succ]
    go_wp2
    go_ret
    exact ⟨rfl, rfl⟩
  · rw [show (isN n && isN m) = false from by simp [isN]; omega]
    go_enter Tryz.func70, Tryz.ntmps70
    go_wp2
    refine wp_loop_rounds 3 ?_
    rw [rounds_succ]
    go_wp2
    rw [rounds_succ]
    go_wp2
    go_ret
    exact ⟨rfl, rfl⟩
  · rw [show (isN n && isN m) = true from by simp [isN]; omega]
    go_enter Tryz.func70, Tryz.ntmps70
    go_wp2
    refine wp_loop_rounds 3 ?_
    rw [rounds_succ]
    go_wp2
    rw [rounds_succ]
    go_wp2
    rw [rounds_succ]
    go_wp2
    go_ret
    exact ⟨rfl, rfl⟩
end Go.Proofs.YtjdiilkljgljkaaGreatDoor
namespace Go.Proofs.YtjdiilkljgljkaaGreatDoor
set_option linter.unusedVariables false
set_option linter.unusedSimpArgs false
open Go.RowKit Wd

theorem ret1 {k : IntKind} {a b : Int} (h : a = b) : Ending.returned (.int k a) = Ending.returned (.int k b) := by rw [h]

theorem mask_Zero (a : Int) (ha : IsW a) (w : World) :
    Calls Tryz.prog 73 #[.int .u64 a] w fun e w' => e = .returned (.int .u64 (msk (decide (a = 0)))) ∧ w = w' := by
  have h1 := zero_w ha
  have hor := or_w ha (isW_lo (-a))
  rw [Int.zero_sub] at h1
  have hn : IsW ((18446744073709551615 - bits .or .u64 a (lo (-a))) / 9223372036854775808) := by unfold IsW at *; omega
  have e : msk (decide (a = 0)) = msk (decide ((18446744073709551615 - bits .or .u64 a (lo (-a))) / 9223372036854775808 % 2 = 1)) := by
    rw [h1]; by_cases h : a = 0 <;> simp [h]
  rw [e]
  have HN := Lib.hid hn; have HO := Lib.hid hor
  clear h1 hor hn e
  have hsg : IntKind.u64.signed = false := rfl
  go_enter Tryz.func73, Tryz.ntmps73
  go_wp2_with fail
  simp only [wrapU]
  rw [not_w HO.out]
  refine (mask_Of _ HN.out _).mono ?_
  rintro e w' ⟨rfl, rfl⟩
  go_wp2_with fail
  go_ret
  exact ⟨rfl, rfl⟩

theorem mask_Select (m : Bool) (a b : Int) (ha : IsW a) (hb : IsW b) (w : World) :
    Calls Tryz.prog 100 #[.int .u64 (msk m), .int .u64 a, .int .u64 b] w fun e w' => e = .returned (.int .u64 (selI m a b)) ∧ w = w' := by
  rw [← select_wI m ha hb]
  go_enter Tryz.func100, Tryz.ntmps100
  go_wp2
  go_ret
  exact ⟨rfl, rfl⟩

/-- the table of package mask -/
def TabM (w : World) : Prop := w.cell? ⟨0, 0, none⟩ = some (.int .u64 9223372036854775808) ∧ w.cell? ⟨0, 1, none⟩ = some (.int .u64 18446744073709551615)
theorem lt_of_cell {w : World} {b o : Nat} {v : Value} (h : w.cell? ⟨b, o, none⟩ = some v) : b < w.heap.size := by
  rcases Nat.lt_or_ge b w.heap.size with h1 | h1
  · exact h1
  · simp [World.cell?, Array.getElem?_eq_none h1] at h
theorem TabM.below {w w' : World} {B : Nat} (h : TabM w) (hb : Below B w w') (hB : w.heap.size ≤ B) : TabM w' := by
  have hlt := lt_of_cell h.1
  have hB' : 0 < B := by omega
  exact ⟨(hb.cell (p := ⟨0, 0, none⟩) hB').trans h.1, (hb.cell (p := ⟨0, 1, none⟩) hB').trans h.2⟩

theorem calls_flip {P : Program} {f : FuncId} {args : Array Value} {w : World} {v : Value} (h : Calls P f args w fun e w' => e = .returned v ∧ w = w') : Calls P f args w fun e w' => e = .returned v ∧ w' = w :=
  h.mono fun _ _ ⟨he, hw⟩ => ⟨he, hw.symm⟩
theorem mask_OfM (b : Bool) (w : World) : Calls Tryz.prog 101 #[.int .u64 (msk b)] w fun e w' => e = .returned (.int .u64 (msk b)) ∧ w' = w := by
  have h := mask_Of (msk b) (isW_msk b) w
  rw [show decide (msk b % 2 = 1) = b from by cases b <;> rfl] at h
  exact calls_flip h
/-- -1, 0 or 1 -/
def sgnM (neg zero : Bool) : Int := if neg then -1 else if zero then 0 else 1
theorem mask_Sign (neg zero : Bool) (w : World) (hT : TabM w) :
    Calls Tryz.prog 71 #[.int .u64 (msk neg), .int .u64 (msk zero)] w fun e w' => e = .returned (.int .i64 (sgnM neg zero)) ∧ ∃ n, w' = w.drewN n := by
  have c1 := hT.2
  have e1 : bits .and .u64 (bits .xor .u64 IntKind.u64.max (msk zero)) 1 = if zero then 0 else 1 := by cases zero <;> rfl
  have e2 : wrap64 (selI neg 18446744073709551615 (if zero then 0 else 1)) = sgnM neg zero := by rw [← IntWalk.i64_left]; cases neg <;> cases zero <;> rfl
  have e3 : IsW (if zero then 0 else 1) := by cases zero <;> (unfold IsW; decide)
  rw [← e2]
  rw [← e1] at e3 ⊢
  have hlt : 0 < w.heap.size := lt_of_cell hT.1
  have hsg : IntKind.u64.signed = false := rfl
  have E3 := Lib.hid e3
  clear e1 e2 e3 hT
  go_enter Tryz.func71, Tryz.ntmps71
  go_wp2_with fail
  go_quiet ((first | (go_at_call 101; exact Calls.quiet_of_same (mask_OfM _ _)) | (go_at_call 100; exact Calls.quiet_of_same (calls_flip (mask_Select neg _ _ (by unfold IsW; decide) E3.out _)))))
  go_wp2_with fail
  go_ret
  exact ⟨rfl, nq, rfl⟩
end Go.Proofs.YtjdiilkljgljkaaGreatDoor
namespace Go.Proofs.YtjdiilkljgljkaaGreatDoor
set_option linter.unusedVariables false
set_option linter.unusedSimpArgs false
open Go.RowKit Wd

/-- the package variable header.fixed -/
structure TabF (w : World) : Prop where
  c0 : w.cell? ⟨1, 0, none⟩ = some (.int .i64 0)
  c1 : w.cell? ⟨1, 1, none⟩ = some (.int .i64 3)
  c2 : w.cell? ⟨1, 2, none⟩ = some (.int .i64 4)
  c3 : w.cell? ⟨1, 3, none⟩ = some (.int .i64 1)
  c4 : w.cell? ⟨1, 4, none⟩ = some (.int .i64 1)
  c5 : w.cell? ⟨1, 5, none⟩ = some (.int .i64 0)
theorem TabF.below {w w' : World} {B : Nat} (h : TabF w) (hb : Below B w w') (hB : w.heap.size ≤ B) : TabF w' := by
  have hlt := block_lt_of_cell h.c0
  have k : ∀ i, w'.cell? ⟨1, i, none⟩ = w.cell? ⟨1, i, none⟩ := fun i => hb.cell (p := ⟨1, i, none⟩) (by show 1 < B; exact Nat.lt_of_lt_of_le hlt hB)
  exact ⟨(k 0).trans h.c0, (k 1).trans h.c1, (k 2).trans h.c2, (k 3).trans h.c3, (k 4).trans h.c4, (k 5).trans h.c5⟩
theorem TabF.alloc {w : World} (h : TabF w) (o : Obj) : TabF (w.alloc o) := h.below ((Below.refl w.heap.size w).alloc (Nat.le_refl _) o) (Nat.le_refl _)
theorem TabF.drew {w : World} (h : TabF w) : TabF w.drew := h.below (Below.refl w.heap.size w).drew (Nat.le_refl _)
/-- the payload's length at an operation without regions -/
def pay12 (op : Int) : Int := if op = 1 then 48 else 64
set_option maxHeartbeats 4000000 in
set_option maxRecDepth 100000 in
theorem header_Payload12 (op : Int) (ho : op = 1 ∨ op = 2) (w : World) (hT : TabF w) :
    Calls Tryz.prog 108 #[.agg #[.int .i64 op, .int .i64 0, .slice none 0 0, .int .i64 0]] w fun e w' => e = .returned (.int .i64 (pay12 op)) ∧ Below w.heap.size w w' := by
  have HT := Lib.hid hT; clear hT
  rcases ho with rfl | rfl
  · go_enter Tryz.func108, Tryz.ntmps108
    go_wp2_with fail
    have HX := Lib.hid (Bx.new w #[.int .i64 1, .int .i64 0, .slice none 0 0, .int .i64 0] 28)
    have HT1 := Lib.hid (HT.out.alloc (.cells #[.int .i64 1, .int .i64 0, .slice none 0 0, .int .i64 0] 28))
    have HB1 := Lib.hid (show Below w.heap.size w (w.alloc (.cells #[.int .i64 1, .int .i64 0, .slice none 0 0, .int .i64 0] 28)) from below_al below_rf)
    generalize w.alloc (.cells #[.int .i64 1, .int .i64 0, .slice none 0 0, .int .i64 0] 28) = w1 at *
    refine (header_check12 _ (by decide) _).mono ?_
    rintro e w2 ⟨rfl, B⟩
    have HX2 := Lib.hid (HX.out.below B (Nat.le_refl _)); have HT2 := Lib.hid (HT1.out.below B (Nat.le_refl _)); have HB2 := Lib.hid (below_tr HB1.out B)
    clear B HX HT1 HB1 HT
    have c0 := HX2.out.cell 0 (v := .int .i64 1) rfl
    have c1 := HX2.out.cell 1 (v := .int .i64 0) rfl
    have c2 := HX2.out.cell 2 (v := .slice none 0 0) rfl
    have c3 := HX2.out.cell 3 (v := .int .i64 0) rfl
    have t1 := HT2.out.c1
    have t2 := HT2.out.c2
    go_wp2_with fail
    go_quiet (fail)
    go_wp2_with fail
    refine wp_loop_rounds 1 ?_
    rw [rounds_succ]
    go_wp2_with fail
    go_ret
    exact ⟨rfl, below_drewN HB2.out⟩
  · go_enter Tryz.func108, Tryz.ntmps108
    go_wp2_with fail
    have HX := Lib.hid (Bx.new w #[.int .i64 2, .int .i64 0, .slice none 0 0, .int .i64 0] 28)
    have HT1 := Lib.hid (HT.out.alloc (.cells #[.int .i64 2, .int .i64 0, .slice none 0 0, .int .i64 0] 28))
    have HB1 := Lib.hid (show Below w.heap.size w (w.alloc (.cells #[.int .i64 2, .int .i64 0, .slice none 0 0, .int .i64 0] 28)) from below_al below_rf)
    generalize w.alloc (.cells #[.int .i64 2, .int .i64 0, .slice none 0 0, .int .i64 0] 28) = w1 at *
    refine (header_check12 _ (by decide) _).mono ?_
    rintro e w2 ⟨rfl, B⟩
    have HX2 := Lib.hid (HX.out.below B (Nat.le_refl _)); have HT2 := Lib.hid (HT1.out.below B (Nat.le_refl _)); have HB2 := Lib.hid (below_tr HB1.out B)
    clear B HX HT1 HB1 HT
    have c0 := HX2.out.cell 0 (v := .int .i64 2) rfl
    have c1 := HX2.out.cell 1 (v := .int .i64 0) rfl
    have c2 := HX2.out.cell 2 (v := .slice none 0 0) rfl
    have c3 := HX2.out.cell 3 (v := .int .i64 0) rfl
    have t1 := HT2.out.c1
    have t2 := HT2.out.c2
    go_wp2_with fail
    go_quiet (fail)
    go_wp2_with fail
    refine wp_loop_rounds 1 ?_
    rw [rounds_succ]
    go_wp2_with fail
    go_ret
    exact ⟨rfl, below_drewN HB2.out⟩
end Go.Proofs.YtjdiilkljgljkaaGreatDoor
namespace Go.Proofs.YtjdiilkljgljkaaGreatDoor
set_option linter.unusedVariables false
set_option linter.unusedSimpArgs false
open Go.RowKit Wd

set_option maxHeartbeats 4000000 in
set_option maxRecDepth 100000 in
theorem header_Classify12 (A : Option Addr) (c : Nat) (op : Int) (ho : op = 1 ∨ op = 2) (l : List Int) (w : World) (hT : TabF w) (hb : By w A c (op :: l)) (hl : (l.length : Int) = pay12 op) :
    Calls Tryz.prog 77 #[.slice A (l.length + 1) c] w fun e w' => e = .returned (.int .i64 0) ∧ Below w.heap.size w w' := by
  have HT := Lib.hid hT; have HB := Lib.hid hb; have HL := Lib.hid hl; clear hT hb
  have hp : pay12 1 = 48 := rfl
  have hp2 : pay12 2 = 64 := rfl
  have HP := Lib.hid hp; have HP2 := Lib.hid hp2; clear hp hp2 hl
  have hmx := HB.out.cap; have hm2 := HB.out.max
  simp only [List.length_cons] at hmx
  unfold maxLen at hm2
  rcases ho with rfl | rfl
  · go_enter Tryz.func77, Tryz.ntmps77
    go_wp2_with fail
    refine (header_Parse12 A c 1 (by decide) l _ HB.out).mono ?_
    rintro e w1 ⟨rfl, B⟩
    have HT1 := Lib.hid (HT.out.below B (Nat.le_refl _)); have HB1 := Lib.hid B; clear B HT
    go_wp2_with fail
    have HX2 := Lib.hid (Bx.new w1 #[.int .i64 1, .int .i64 0, .slice none 0 0, .int .i64 0] 28)
    have HT2 := Lib.hid (HT1.out.alloc (.cells #[.int .i64 1, .int .i64 0, .slice none 0 0, .int .i64 0] 28))
    have HB2 := Lib.hid (HB1.out.alloc HB1.out.size (.cells #[.int .i64 1, .int .i64 0, .slice none 0 0, .int .i64 0] 28))
    generalize w1.alloc (.cells #[.int .i64 1, .int .i64 0, .slice none 0 0, .int .i64 0] 28) = w2 at *
    clear HT1 HB1
    have c0 := HX2.out.cell 0 (v := .int .i64 1) rfl
    have c1 := HX2.out.cell 1 (v := .int .i64 0) rfl
    have c2 := HX2.out.cell 2 (v := .slice none 0 0) rfl
    have c3 := HX2.out.cell 3 (v := .int .i64 0) rfl
    go_wp2_with fail
    refine (header_Payload12 1 (by decide) _ HT2.out).mono ?_
    rintro e w3 ⟨rfl, B⟩
    have HB3 := Lib.hid (HB2.out.trans (B.mono HB2.out.size)); clear B
    rw [show pay12 1 = 48 from rfl]
    have hln : l.length = 48 := by have := HL.out; rw [show pay12 1 = 48 from rfl] at this; omega
    have HLN := Lib.hid hln
    rw [hln]
    clear hln
    go_wp2_with fail
    go_ret
    exact ⟨rfl, HB3.out⟩
  · go_enter Tryz.func77, Tryz.ntmps77
    go_wp2_with fail
    refine (header_Parse12 A c 2 (by decide) l _ HB.out).mono ?_
    rintro e w1 ⟨rfl, B⟩
    have HT1 := Lib.hid (HT.out.below B (Nat.le_refl _)); have HB1 := Lib.hid B; clear B HT
    go_wp2_with fail
    have HX2 := Lib.hid (Bx.new w1 #[.int .i64 2, .int .i64 0, .slice none 0 0, .int .i64 0] 28)
    have HT2 := Lib.hid (HT1.out.alloc (.cells #[.int .i64 2, .int .i64 0, .slice none 0 0, .int .i64 0] 28))
    have HB2 := Lib.hid (HB1.out.alloc HB1.out.size (.cells #[.int .i64 2, .int .i64 0, .slice none 0 0, .int .i64 0] 28))
    generalize w1.alloc (.cells #[.int .i64 2, .int .i64 0, .slice none 0 0, .int .i64 0] 28) = w2 at *
    clear HT1 HB1
    have c0 := HX2.out.cell 0 (v := .int .i64 2) rfl
    have c1 := HX2.out.cell 1 (v := .int .i64 0) rfl
    have c2 := HX2.out.cell 2 (v := .slice none 0 0) rfl
    have c3 := HX2.out.cell 3 (v := .int .i64 0) rfl
    go_wp2_with fail
    refine (header_Payload12 2 (by decide) _ HT2.out).mono ?_
    rintro e w3 ⟨rfl, B⟩
    have HB3 := Lib.hid (HB2.out.trans (B.mono HB2.out.size)); clear B
    rw [show pay12 2 = 64 from rfl]
    have hln : l.length = 64 := by have := HL.out; rw [show pay12 2 = 64 from rfl] at this; omega
    have HLN := Lib.hid hln
    rw [hln]
    clear hln
    go_wp2_with fail
    go_ret
    exact ⟨rfl, HB3.out⟩
set_option maxHeartbeats 4000000 in
set_option maxRecDepth 100000 in
theorem header_Format12 (op : Int) (ho : op = 1 ∨ op = 2) (w : World) :
    Calls Tryz.prog 88 #[.agg #[.int .i64 op, .int .i64 0, .slice none 0 0, .int .i64 0]] w fun e w' => (∃ v, e = .returned (.tuple #[v, .int .i64 0]) ∧ OwB w' w.heap.size v [op]) ∧ Below w.heap.size w w' := by
  rcases ho with rfl | rfl
  · go_enter Tryz.func88, Tryz.ntmps88
    go_wp2_with fail
    have HX := Lib.hid (Bx.new w #[.int .i64 1, .int .i64 0, .slice none 0 0, .int .i64 0] 28)
    have HB1 := Lib.hid (show Below w.heap.size w (w.alloc (.cells #[.int .i64 1, .int .i64 0, .slice none 0 0, .int .i64 0] 28)) from below_al below_rf)
    generalize w.alloc (.cells #[.int .i64 1, .int .i64 0, .slice none 0 0, .int .i64 0] 28) = w1 at *
    have c0 := HX.out.cell 0 (v := .int .i64 1) rfl
    have c1 := HX.out.cell 1 (v := .int .i64 0) rfl
    have c2 := HX.out.cell 2 (v := .slice none 0 0) rfl
    have c3 := HX.out.cell 3 (v := .int .i64 0) rfl
    go_wp2_with fail
    refine (header_check12 _ (by decide) _).mono ?_
    rintro e w2 ⟨rfl, B⟩
    have HX2 := Lib.hid (HX.out.below B (Nat.le_refl _)); have HB2 := Lib.hid (below_tr HB1.out B)
    clear B HX HB1 c0 c1 c2 c3
    have c0 := HX2.out.cell 0 (v := .int .i64 1) rfl
    have c1 := HX2.out.cell 1 (v := .int .i64 0) rfl
    have c2 := HX2.out.cell 2 (v := .slice none 0 0) rfl
    have c3 := HX2.out.cell 3 (v := .int .i64 0) rfl
    have hlt := HX2.out.lt
    go_wp2_with fail
    have HO := Lib.hid (show OwB (w2.alloc (.cells #[.int .u8 1] 5)) w.heap.size (.slice (some ⟨w2.heap.size, 0, none⟩) 1 1) [1] from ⟨rfl, .inr ⟨w2.heap.size, 1, #[.int .u8 1], rfl, HB2.out.size, Bx.new _ _ _, Nat.le_refl _, by decide, rfl, rfl⟩⟩)
    have HB3 := Lib.hid (HB2.out.alloc HB2.out.size (.cells #[.int .u8 1] 5))
    refine wp_loop_rounds 1 ?_
    rw [rounds_succ]
    go_wp2_with fail
    go_ret2
    exact ⟨⟨_, rfl, HO.out⟩, HB3.out⟩
  · go_enter Tryz.func88, Tryz.ntmps88
    go_wp2_with fail
    have HX := Lib.hid (Bx.new w #[.int .i64 2, .int .i64 0, .slice none 0 0, .int .i64 0] 28)
    have HB1 := Lib.hid (show Below w.heap.size w (w.alloc (.cells #[.int .i64 2, .int .i64 0, .slice none 0 0, .int .i64 0] 28)) from below_al below_rf)
    generalize w.alloc (.cells #[.int .i64 2, .int .i64 0, .slice none 0 0, .int .i64 0] 28) = w1 at *
    have c0 := HX.out.cell 0 (v := .int .i64 2) rfl
    have c1 := HX.out.cell 1 (v := .int .i64 0) rfl
    have c2 := HX.out.cell 2 (v := .slice none 0 0) rfl
    have c3 := HX.out.cell 3 (v := .int .i64 0) rfl
    go_wp2_with fail
    refine (header_check12 _ (by decide) _).mono ?_
    rintro e w2 ⟨rfl, B⟩
    have HX2 := Lib.hid (HX.out.below B (Nat.le_refl _)); have HB2 := Lib.hid (below_tr HB1.out B)
    clear B HX HB1 c0 c1 c2 c3
    have c0 := HX2.out.cell 0 (v := .int .i64 2) rfl
    have c1 := HX2.out.cell 1 (v := .int .i64 0) rfl
    have c2 := HX2.out.cell 2 (v := .slice none 0 0) rfl
    have c3 := HX2.out.cell 3 (v := .int .i64 0) rfl
    have hlt := HX2.out.lt
    go_wp2_with fail
    have HO := Lib.hid (show OwB (w2.alloc (.cells #[.int .u8 2] 5)) w.heap.size (.slice (some ⟨w2.heap.size, 0, none⟩) 1 1) [2] from ⟨rfl, .inr ⟨w2.heap.size, 1, #[.int .u8 2], rfl, HB2.out.size, Bx.new _ _ _, Nat.le_refl _, by decide, rfl, rfl⟩⟩)
    have HB3 := Lib.hid (HB2.out.alloc HB2.out.size (.cells #[.int .u8 2] 5))
    refine wp_loop_rounds 1 ?_
    rw [rounds_succ]
    go_wp2_with fail
    go_ret2
    exact ⟨⟨_, rfl, HO.out⟩, HB3.out⟩
set_option maxHeartbeats 4000000 in
set_option maxRecDepth 100000 in
theorem codec_counts12 (op : Int) (ho : op = 1 ∨ op = 2) (w : World) :
    Calls Tryz.prog 82 #[.agg #[.int .i64 op, .int .i64 0, .slice none 0 0, .int .i64 0]] w fun e w' => e = .returned (.tuple #[.int .i64 (op + 2), .int .i64 0]) ∧ Below w.heap.size w w' := by
  rcases ho with rfl | rfl
  · go_enter Tryz.func82, Tryz.ntmps82
    go_wp2_with fail
    go_ret2
    exact ⟨rfl, below_al below_rf⟩
  · go_enter Tryz.func82, Tryz.ntmps82
    go_wp2_with fail
    go_ret2
    exact ⟨rfl, below_al below_rf⟩
end Go.Proofs.YtjdiilkljgljkaaGreatDoor
namespace Go.Proofs.YtjdiilkljgljkaaGreatDoor
set_option linter.unusedVariables false
set_option linter.unusedSimpArgs false
open Go.RowKit Wd

/-- the bytes of m points from number k on -/
def ptsF (f g : Nat → Int) (k : Nat) : Nat → List Int
  | 0 => []
  | m + 1 => ptB (f k) (g k) ++ ptsF f g (k + 1) m
theorem ptsB_F (f g : Nat → Int) : ∀ m k, ptsB f g (k + m) = ptsB f g k ++ ptsF f g k m
  | 0, k => by simp [ptsF]
  | m + 1, k => by
    rw [show k + (m + 1) = (k + 1) + m by omega, ptsB_F f g m (k + 1), ptsB, ptsF, List.append_assoc]
theorem ptsB_F0 (f g : Nat → Int) (n : Nat) : ptsB f g n = ptsF f g 0 n := by have := ptsB_F f g n 0; simpa [ptsB] using this
theorem ptsF_step (f g : Nat → Int) {k n : Nat} (h : k < n) : ptsF f g k (n - k) = ptB (f k) (g k) ++ ptsF f g (k + 1) (n - (k + 1)) := by
  rw [show n - k = (n - (k + 1)) + 1 by omega, ptsF]
/-- the bytes of queries -/
def qusB (f g d : Nat → Int) : Nat → List Int
  | 0 => []
  | k + 1 => qusB f g d k ++ quB (f k) (g k) (d k)
theorem qusB_len (f g d : Nat → Int) : ∀ k, (qusB f g d k).length = 24 * k
  | 0 => rfl
  | k + 1 => by rw [qusB, List.length_append, qusB_len f g d k, quB_len]; omega
/-- the first k elements of a row, s cells each, are e 0 .., the row has m cells -/
structure RowE (cur : Array Value) (s m k : Nat) (e : Nat → Nat → Value) : Prop where
  size : cur.size = m
  at_ : ∀ i, i < k → ∀ j, j < s → cur[i * s + j]? = some (e i j)
def setRow (cur : Array Value) (o : Nat) : List Value → Array Value
  | [] => cur
  | v :: l => setRow (cur.setIfInBounds o v) (o + 1) l
theorem setRow_size : ∀ (l : List Value) (cur : Array Value) (o : Nat), (setRow cur o l).size = cur.size
  | [], _, _ => rfl
  | v :: l, cur, o => by rw [setRow, setRow_size l]; simp
theorem setRow_get : ∀ (l : List Value) (cur : Array Value) (o : Nat), o + l.length ≤ cur.size → ∀ i, (setRow cur o l)[i]? = if o ≤ i ∧ i < o + l.length then l[i - o]? else cur[i]?
  | [], cur, o, h, i => by simp [setRow]; intro h1 h2; omega
  | v :: l, cur, o, h, i => by
    simp only [List.length_cons] at h
    rw [setRow, setRow_get l _ _ (by simp; omega)]
    by_cases h1 : o + 1 ≤ i ∧ i < o + 1 + l.length
    · rw [if_pos h1, if_pos (by simp; omega), show i - o = (i - (o + 1)) + 1 by omega]; simp
    · rw [if_neg h1]
      by_cases h2 : i = o
      · subst h2; rw [if_pos (by simp)]; have h3 : i < cur.size := by omega
        simp [h3]
      · rw [if_neg (by simp; omega), Array.getElem?_setIfInBounds_ne (by omega)]
theorem RowE.snoc {cur : Array Value} {s m k : Nat} {e : Nat → Nat → Value} (h : RowE cur s m k e) (hk : k * s + s ≤ m) (l : List Value) (hl : l.length = s) (he : ∀ j, j < s → l[j]? = some (e k j)) : RowE (setRow cur (k * s) l) s m (k + 1) e :=
  ⟨(setRow_size _ _ _).trans h.size, fun i hi j hj => by
    rw [setRow_get _ _ _ (by rw [hl, h.size]; exact hk), hl]
    rcases (by omega : i < k ∨ i = k) with h1 | rfl
    · have h2 : i * s + s ≤ k * s := by have := Nat.mul_le_mul_right s (show i + 1 ≤ k by omega); rw [Nat.add_mul, Nat.one_mul] at this; exact this
      rw [if_neg (by omega)]; exact h.at_ i h1 j hj
    · rw [if_pos (by omega), show i * s + j - i * s = j by omega]; exact he j hj⟩
theorem RowE.some {cur : Array Value} {s m k : Nat} {e : Nat → Nat → Value} (h : RowE cur s m k e) {i : Nat} (hi : i < m) : ∃ v, cur[i]? = Option.some v := ⟨_, Array.getElem?_eq_getElem (by rw [h.size]; exact hi)⟩
def ptE (f g : Nat → Int) (i j : Nat) : Value := if j = 0 then .int .i64 (f i) else .int .i64 (g i)
/-- the slice '.slice A n c' holds these queries -/
structure Qus (w : World) (A : Option Addr) (n c : Nat) (f g d : Nat → Int) : Prop where
  cap : n ≤ c
  max : c ≤ maxLen
  isi : ∀ i, i < n → IsI (f i) ∧ IsI (g i) ∧ IsW (d i)
  at_ : 0 < n → ∃ b off, A = some ⟨b, off, none⟩ ∧ b < w.heap.size ∧ ∀ i, i < n → w.cell? ⟨b, off + i * 3, none⟩ = some (.int .i64 (f i)) ∧ w.cell? ⟨b, off + i * 3 + 1, none⟩ = some (.int .i64 (g i)) ∧ w.cell? ⟨b, off + i * 3 + 2, none⟩ = some (.int .u64 (d i))
theorem Qus.below {w w' : World} {B : Nat} {A : Option Addr} {n c : Nat} {f g d : Nat → Int} (h : Qus w A n c f g d) (hb : Below B w w') (hB : w.heap.size ≤ B) : Qus w' A n c f g d :=
  ⟨h.cap, h.max, h.isi, fun hn => by
    obtain ⟨b, off, e, hlt, hc⟩ := h.at_ hn
    exact ⟨b, off, e, Nat.lt_of_lt_of_le hlt hb.size, fun i hi => ⟨(hb.cell (p := ⟨b, off + i * 3, none⟩) (by show b < B; omega)).trans (hc i hi).1, (hb.cell (p := ⟨b, off + i * 3 + 1, none⟩) (by show b < B; omega)).trans (hc i hi).2.1, (hb.cell (p := ⟨b, off + i * 3 + 2, none⟩) (by show b < B; omega)).trans (hc i hi).2.2⟩⟩⟩
theorem Qus.alloc {w : World} {A : Option Addr} {n c : Nat} {f g d : Nat → Int} (h : Qus w A n c f g d) (o : Obj) : Qus (w.alloc o) A n c f g d :=
  h.below ((Below.refl w.heap.size w).alloc (Nat.le_refl _) o) (Nat.le_refl _)
theorem Qus.drew {w : World} {A : Option Addr} {n c : Nat} {f g d : Nat → Int} (h : Qus w A n c f g d) : Qus w.drew A n c f g d := h.below (Below.refl w.heap.size w).drew (Nat.le_refl _)
theorem bx_ptE {w : World} {b n : Nat} {f g : Nat → Int} {cur : Array Value} {t : TypeId} (h : Bx w b cur t) (hc : RowE cur 2 (n * 2) n (ptE f g)) (hm : n ≤ maxLen) (hi : ∀ i, i < n → IsI (f i) ∧ IsI (g i)) : Pts w (some ⟨b, 0, none⟩) n n f g :=
  ⟨Nat.le_refl _, hm, hi, fun _ => ⟨b, 0, rfl, h.lt, fun i hi' => by
    rw [Nat.zero_add]; exact ⟨h.cell _ (hc.at_ i hi' 0 (by decide)), h.cell _ (hc.at_ i hi' 1 (by decide))⟩⟩⟩
/-- no cell holds a byte -/
def NoB (cs : Array Value) : Prop := ∀ u ∈ cs.toList, ∀ x, u ≠ .int .u8 x
theorem noB_set {cs : Array Value} (h : NoB cs) {v : Value} (hv : ∀ x, v ≠ .int .u8 x) (i : Nat) : NoB (cs.setIfInBounds i v) := by
  intro u hu x
  rw [Array.toList_setIfInBounds] at hu
  rcases List.mem_or_eq_of_mem_set hu with h1 | h1
  · exact h u h1 x
  · rw [h1]; exact hv x
theorem noB_setRow : ∀ (l : List Value) {cs : Array Value} (o : Nat), NoB cs → (∀ v ∈ l, ∀ x, v ≠ .int .u8 x) → NoB (setRow cs o l)
  | [], _, _, h, _ => h
  | v :: l, cs, o, h, hl => noB_setRow l _ (noB_set h (hl v (by simp)) o) (fun u hu => hl u (by simp [hu]))
theorem noB_made {z : Array Value} (hz : NoB z) (h0 : 0 < z.size) (n : Nat) : NoB (madeCells z n) := by
  intro u hu x
  simp only [madeCells, Array.toList_map, List.mem_map] at hu
  obtain ⟨i, _, rfl⟩ := hu
  rw [getElem!_pos z _ (Nat.mod_lt _ h0)]
  exact hz _ (by simp) x
theorem madeRow {w : World} {base e s n g : Nat} {z : Array Value} (h : w.ownsRow base e s (.slice (some ⟨g, 0, none⟩) n n) n (madeCells z (n * s)).toList) (hn : 0 < n) : Bx w g (madeCells z (n * s)) e := by
  rcases h.2 with ⟨h, _⟩ | ⟨g', cap, cur, e1, _, h3, _, _, h6, h7⟩
  · cases h
  · cases e1
    have : cur = madeCells z (n * s) := by
      rw [List.take_of_length_le (by simp [h6])] at h7
      exact Array.toList_inj.1 h7
    rw [← this]; exact h3
end Go.Proofs.YtjdiilkljgljkaaGreatDoor
namespace Go.Proofs.YtjdiilkljgljkaaGreatDoor
set_option linter.unusedVariables false
set_option linter.unusedSimpArgs false
open Go.RowKit Wd

set_option maxHeartbeats 4000000 in
set_option maxRecDepth 100000 in
theorem each_pts (r : World) (base bw : Nat) (A : Option Addr) (n c : Nat) (f g : Nat → Int) (hn : n ≤ 10000) (l : List Int) (hl : l.length ≤ 500000) (w : World) (hb : base ≤ w.heap.size) (hrb : r.heap.size ≤ base) (hp : Pts r A n c f g) (hbr : Below base r w) (hw : Wr w base bw l) :
    Calls Tryz.prog 113 #[.slice A n c, .func (.func 114) #[.pointer (some ⟨bw, 0, none⟩)] #[]] w fun e w' => e = .returned (.tuple #[]) ∧ Wr w' base bw (l ++ ptsB f g n) ∧ Fr base (some bw) w w' := by
  have HW := Lib.hid hw; have HP := Lib.hid hp; have HLL := Lib.hid hl; have HN := Lib.hid hn; have HRB := Lib.hid hrb; have HBR0 := Lib.hid hbr; clear hw hp hl hn hrb hbr
  go_enter Tryz.func113, Tryz.ntmps113
  go_wp2_with fail
  go_loopw [8] (fun ir wr => ∃ k : Nat, k ≤ n ∧ ir = .int .i64 (k : Int) ∧ Wr wr base bw (l ++ ptsB f g k) ∧ Fr base (some bw) w wr) (fun i _ => n - (intOf i).toNat)
  case atStart => exact ⟨0, Nat.zero_le _, rfl, by simpa [ptsB] using HW.out, Fr.refl _ _ _⟩
  case round =>
    obtain ⟨k, hk, rfl, hwr, hbr⟩ := hrel
    have HWR := Lib.hid hwr; have HBR := Lib.hid hbr; clear hwr hbr
    by_cases hlt : k < n
    · obtain ⟨b, off, rfl, hbl, hc⟩ := HP.out.at_ (by omega)
      have hB := HBR0.out.trans HBR.out.below
      have c0 : wr.cell? ⟨b, off + k * 2, none⟩ = some (.int .i64 (f k)) := (hB.cell (p := ⟨b, off + k * 2, none⟩) (by show b < base; have := HRB.out; omega)).trans (hc k hlt).1
      have c1 : wr.cell? ⟨b, off + k * 2 + 1, none⟩ = some (.int .i64 (g k)) := (hB.cell (p := ⟨b, off + k * 2 + 1, none⟩) (by show b < base; have := HRB.out; omega)).trans (hc k hlt).2
      have hcp := HP.out.cap; have hmx := HP.out.max
      unfold maxLen at hmx
      clear hB hc hbl
      have hms := Lib.hid (show n - (intOf (.int .i64 ((k : Int) + 1))).toNat < n - (intOf (.int .i64 (k : Int))).toNat from by simp [intOf]; omega)
      have hlk : (l ++ ptsB f g k).length ≤ 900000 := by have := HLL.out; have := HN.out; simp [ptsB_len]; omega
      have HLK := Lib.hid hlk; clear hlk
      go_wp2_with fail
      clear c0 c1
      have HF := Lib.hid (HBR.out.alloc (Nat.le_trans hb HBR.out.size) (.cells #[.int .i64 (f k), .int .i64 (g k)] 23))
      have HW1 := Lib.hid (HWR.out.alloc (.cells #[.int .i64 (f k), .int .i64 (g k)] 23))
      generalize wr.alloc (.cells #[.int .i64 (f k), .int .i64 (g k)] 23) = w1 at *
      clear HBR HWR
      refine (writer_point base bw _ (f k) (g k) HLK.out _ (Nat.le_trans hb HF.out.size) HW1.out).mono ?_
      rintro e w2 ⟨rfl, h2, g2⟩
      have HW2 := Lib.hid (show Wr w2 base bw (l ++ ptsB f g (k + 1)) from by rw [ptsB, ← List.append_assoc]; exact h2); have HF2 := Lib.hid (HF.out.trans g2); clear h2 g2 HW1 HF
      go_wp2_with fail
      go_roundw
      case rel => exact ⟨k + 1, hlt, by go_num, HW2.out, HF2.out⟩
      case measure => exact hms.out
    · obtain rfl : k = n := by omega
      go_wp2_with fail
      go_end0
      exact ⟨rfl, HWR.out, HBR.out⟩
set_option maxHeartbeats 4000000 in
set_option maxRecDepth 100000 in
theorem each_qus0 (A : Option Addr) (c : Nat) (F : Value) (w : World) :
    Calls Tryz.prog 115 #[.slice A 0 c, F] w fun e w' => e = .returned (.tuple #[]) ∧ w = w' := by
  go_enter Tryz.func115, Tryz.ntmps115
  go_wp2_with fail
  refine wp_loop_rounds 1 ?_
  rw [rounds_succ]
  go_wp2_with fail
  go_end0
  exact ⟨rfl, rfl⟩
set_option maxHeartbeats 4000000 in
set_option maxRecDepth 100000 in
theorem each_recs0 (A : Option Addr) (c : Nat) (F : Value) (w : World) :
    Calls Tryz.prog 90 #[.slice A 0 c, F] w fun e w' => e = .returned (.tuple #[]) ∧ w = w' := by
  go_enter Tryz.func90, Tryz.ntmps90
  go_wp2_with fail
  refine wp_loop_rounds 1 ?_
  rw [rounds_succ]
  go_wp2_with fail
  go_end0
  exact ⟨rfl, rfl⟩
set_option maxHeartbeats 4000000 in
set_option maxRecDepth 100000 in
theorem take_qus0 (F : Value) (w : World) :
    Calls Tryz.prog 83 #[.int .i64 0, F] w fun e w' => e = .returned (.slice (some ⟨w.heap.size, 0, none⟩) 0 0) ∧ Below w.heap.size w w' := by
  have hmk : ∀ w, (Instr.makeSlice 30 (.int .i64 0) (.int .i64 0)).run Tryz.prog w = .ok (.slice (some ⟨w.heap.size, 0, none⟩) 0 0) (w.alloc (.cells #[] 63)) := fun _ => by kernel_rfl
  go_enter Tryz.func83, Tryz.ntmps83
  go_wp2_with fail
  refine wp_loop_rounds 1 ?_
  rw [rounds_succ]
  go_wp2_with fail
  go_ret
  exact ⟨rfl, below_al below_rf⟩
end Go.Proofs.YtjdiilkljgljkaaGreatDoor
namespace Go.Proofs.YtjdiilkljgljkaaGreatDoor
set_option linter.unusedVariables false
set_option linter.unusedSimpArgs false
open Go.RowKit Wd

end Go.Proofs.YtjdiilkljgljkaaGreatDoor
namespace Go.Proofs.YtjdiilkljgljkaaGreatDoor
set_option linter.unusedVariables false
set_option linter.unusedSimpArgs false
open Go.RowKit Wd

set_option maxHeartbeats 4000000 in
set_option maxRecDepth 100000 in
theorem codec_Encode12 (op : Int) (ho : op = 1 ∨ op = 2) (A : Option Addr) (c : Nat) (f g : Nat → Int) (Q : Option Addr) (qc : Nat) (w : World) (hp : Pts w A (op + 2).toNat c f g) :
    Calls Tryz.prog 85 #[.agg #[.int .i64 op, .int .i64 0, .slice none 0 0, .int .i64 0, .slice none 0 0, .slice A (op + 2).toNat c, .slice Q 0 qc]] w fun e w' => (∃ v, e = .returned (.tuple #[v, .int .i64 0])) ∧ Below w.heap.size w w' := by
  rcases ho with rfl | rfl
  · have HP := Lib.hid (show Pts w A 3 c f g from hp); clear hp
    rw [show ((1 : Int) + 2).toNat = 3 from rfl]
    go_enter Tryz.func85, Tryz.ntmps85
    go_wp2_with fail
    have HX := Lib.hid (Bx.new w #[.int .i64 1, .int .i64 0, .slice none 0 0, .int .i64 0, .slice none 0 0, .slice A 3 c, .slice Q 0 qc] 99)
    have HP1 := Lib.hid (HP.out.alloc (.cells #[.int .i64 1, .int .i64 0, .slice none 0 0, .int .i64 0, .slice none 0 0, .slice A 3 c, .slice Q 0 qc] 99))
    have HB1 := Lib.hid (show Below w.heap.size w (w.alloc (.cells #[.int .i64 1, .int .i64 0, .slice none 0 0, .int .i64 0, .slice none 0 0, .slice A 3 c, .slice Q 0 qc] 99)) from below_al below_rf)
    generalize w.alloc (.cells #[.int .i64 1, .int .i64 0, .slice none 0 0, .int .i64 0, .slice none 0 0, .slice A 3 c, .slice Q 0 qc] 99) = w1 at *
    clear HP
    have c0 := HX.out.cell 0 (v := .int .i64 1) rfl
    have c1 := HX.out.cell 1 (v := .int .i64 0) rfl
    have c2 := HX.out.cell 2 (v := .slice none 0 0) rfl
    have c3 := HX.out.cell 3 (v := .int .i64 0) rfl
    go_wp2_with fail
    clear c0 c1 c2 c3
    refine (header_Format12 1 (by decide) _).mono ?_
    rintro e w2 ⟨⟨v, rfl, ho2⟩, B⟩
    obtain ⟨A', c', rfl⟩ := ho2.slice
    rw [show [(1 : Int)].length = 1 from rfl] at ho2
    rw [show [(1 : Int)].length = 1 from rfl]
    have HX2 := Lib.hid (HX.out.below B (Nat.le_refl _)); have HB12 := Lib.hid B; have HO2 := Lib.hid ho2; clear B ho2
    have c0 := HX2.out.cell 0 (v := .int .i64 1) rfl
    have c1 := HX2.out.cell 1 (v := .int .i64 0) rfl
    have c2 := HX2.out.cell 2 (v := .slice none 0 0) rfl
    have c3 := HX2.out.cell 3 (v := .int .i64 0) rfl
    go_wp2_with fail
    clear c0 c1 c2 c3
    refine (codec_counts12 1 (by decide) _).mono ?_
    rintro e w3 ⟨rfl, B⟩
    have HX3 := Lib.hid (HX2.out.below B (Nat.le_refl _)); have HB13 := Lib.hid (HB12.out.trans (B.mono HB12.out.size)); have HO3 := Lib.hid (HO2.out.below B (Nat.le_refl _)); clear B HX2 HB12 HO2
    rw [show (1 : Int) + 2 = 3 from rfl]
    have hcp := HP1.out.cap; have hmx := HP1.out.max
    unfold maxLen at hmx
    have c0 := HX3.out.cell 0 (v := .int .i64 1) rfl
    have c1 := HX3.out.cell 1 (v := .int .i64 0) rfl
    have c2 := HX3.out.cell 2 (v := .slice none 0 0) rfl
    have c3 := HX3.out.cell 3 (v := .int .i64 0) rfl
    have c4 := HX3.out.cell 4 (v := .slice none 0 0) rfl
    have c5 := HX3.out.cell 5 (v := .slice A 3 c) rfl
    have c6 := HX3.out.cell 6 (v := .slice Q 0 qc) rfl
    go_wp2_with fail
    refine wp_loop_rounds 1 ?_
    rw [rounds_succ]
    have d4 := (HX3.out.alloc (.cells #[.slice A' 1 c'] 142)).cell 4 (v := .slice none 0 0) rfl
    go_wp2_with fail
    clear d4
    have HW4 := Lib.hid (show Wr (w3.alloc (.cells #[.slice A' 1 c'] 142)) w1.heap.size w3.heap.size [1] from ⟨HB13.out.size, .slice A' 1 c', Bx.new _ _ _, HO3.out.alloc _⟩)
    have HB14 := Lib.hid (HB13.out.alloc HB13.out.size (.cells #[.slice A' 1 c'] 142))
    have HX4 := Lib.hid (HX3.out.alloc (.cells #[.slice A' 1 c'] 142))
    have HNE := Lib.hid (show some w.heap.size ≠ some w3.heap.size from by have := HX3.out.lt; simp; omega)
    generalize hz : w3.heap.size = bw at *
    have HZ := Lib.hid hz; clear hz
    generalize w3.alloc (.cells #[.slice A' 1 c'] 142) = w4 at *
    clear HX3 HB13 HO3 c0 c1 c2 c3 c4 c5 c6
    refine wp_loop_rounds 1 ?_
    rw [rounds_succ]
    have c5 := HX4.out.cell 5 (v := .slice A 3 c) rfl
    go_wp2_with fail
    clear c5
    refine (each_pts w1 w1.heap.size bw A 3 c f g (by decide) [1] (by decide) _ HB14.out.size (Nat.le_refl _) HP1.out HB14.out HW4.out).mono ?_
    rintro e w5 ⟨rfl, h5, g5⟩
    have HW5 := Lib.hid h5; have HX5 := Lib.hid (g5.keep _ _ _ (by decide) HNE.out HX4.out); have HB15 := Lib.hid (HB14.out.trans g5.below); clear h5 g5 HW4 HX4 HB14
    have c6 := HX5.out.cell 6 (v := .slice Q 0 qc) rfl
    go_wp2_with fail
    refine (each_qus0 Q qc _ _).mono ?_
    rintro e w6 ⟨rfl, rfl⟩
    obtain ⟨-, v5, hbw, hov⟩ := HW5.out
    have cw := hbw.cell 0 (v := v5) rfl
    clear hbw hov
    go_wp2_with fail
    go_ret2
    exact ⟨⟨_, rfl⟩, HB1.out.trans (HB15.out.mono HB1.out.size)⟩
  · have HP := Lib.hid (show Pts w A 4 c f g from hp); clear hp
    rw [show ((2 : Int) + 2).toNat = 4 from rfl]
    go_enter Tryz.func85, Tryz.ntmps85
    go_wp2_with fail
    have HX := Lib.hid (Bx.new w #[.int .i64 2, .int .i64 0, .slice none 0 0, .int .i64 0, .slice none 0 0, .slice A 4 c, .slice Q 0 qc] 99)
    have HP1 := Lib.hid (HP.out.alloc (.cells #[.int .i64 2, .int .i64 0, .slice none 0 0, .int .i64 0, .slice none 0 0, .slice A 4 c, .slice Q 0 qc] 99))
    have HB1 := Lib.hid (show Below w.heap.size w (w.alloc (.cells #[.int .i64 2, .int .i64 0, .slice none 0 0, .int .i64 0, .slice none 0 0, .slice A 4 c, .slice Q 0 qc] 99)) from below_al below_rf)
    generalize w.alloc (.cells #[.int .i64 2, .int .i64 0, .slice none 0 0, .int .i64 0, .slice none 0 0, .slice A 4 c, .slice Q 0 qc] 99) = w1 at *
    clear HP
    have c0 := HX.out.cell 0 (v := .int .i64 2) rfl
    have c1 := HX.out.cell 1 (v := .int .i64 0) rfl
    have c2 := HX.out.cell 2 (v := .slice none 0 0) rfl
    have c3 := HX.out.cell 3 (v := .int .i64 0) rfl
    go_wp2_with fail
    clear c0 c1 c2 c3
    refine (header_Format12 2 (by decide) _).mono ?_
    rintro e w2 ⟨⟨v, rfl, ho2⟩, B⟩
    obtain ⟨A', c', rfl⟩ := ho2.slice
    rw [show [(2 : Int)].length = 1 from rfl] at ho2
    rw [show [(2 : Int)].length = 1 from rfl]
    have HX2 := Lib.hid (HX.out.below B (Nat.le_refl _)); have HB12 := Lib.hid B; have HO2 := Lib.hid ho2; clear B ho2
    have c0 := HX2.out.cell 0 (v := .int .i64 2) rfl
    have c1 := HX2.out.cell 1 (v := .int .i64 0) rfl
    have c2 := HX2.out.cell 2 (v := .slice none 0 0) rfl
    have c3 := HX2.out.cell 3 (v := .int .i64 0) rfl
    go_wp2_with fail
    clear c0 c1 c2 c3
    refine (codec_counts12 2 (by decide) _).mono ?_
    rintro e w3 ⟨rfl, B⟩
    have HX3 := Lib.hid (HX2.out.below B (Nat.le_refl _)); have HB13 := Lib.hid (HB12.out.trans (B.mono HB12.out.size)); have HO3 := Lib.hid (HO2.out.below B (Nat.le_refl _)); clear B HX2 HB12 HO2
    rw [show (2 : Int) + 2 = 4 from rfl]
    have hcp := HP1.out.cap; have hmx := HP1.out.max
    unfold maxLen at hmx
    have c0 := HX3.out.cell 0 (v := .int .i64 2) rfl
    have c1 := HX3.out.cell 1 (v := .int .i64 0) rfl
    have c2 := HX3.out.cell 2 (v := .slice none 0 0) rfl
    have c3 := HX3.out.cell 3 (v := .int .i64 0) rfl
    have c4 := HX3.out.cell 4 (v := .slice none 0 0) rfl
    have c5 := HX3.out.cell 5 (v := .slice A 4 c) rfl
    have c6 := HX3.out.cell 6 (v := .slice Q 0 qc) rfl
    go_wp2_with fail
    refine wp_loop_rounds 1 ?_
    rw [rounds_succ]
    have d4 := (HX3.out.alloc (.cells #[.slice A' 1 c'] 142)).cell 4 (v := .slice none 0 0) rfl
    go_wp2_with fail
    clear d4
    have HW4 := Lib.hid (show Wr (w3.alloc (.cells #[.slice A' 1 c'] 142)) w1.heap.size w3.heap.size [2] from ⟨HB13.out.size, .slice A' 1 c', Bx.new _ _ _, HO3.out.alloc _⟩)
    have HB14 := Lib.hid (HB13.out.alloc HB13.out.size (.cells #[.slice A' 1 c'] 142))
    have HX4 := Lib.hid (HX3.out.alloc (.cells #[.slice A' 1 c'] 142))
    have HNE := Lib.hid (show some w.heap.size ≠ some w3.heap.size from by have := HX3.out.lt; simp; omega)
    generalize hz : w3.heap.size = bw at *
    have HZ := Lib.hid hz; clear hz
    generalize w3.alloc (.cells #[.slice A' 1 c'] 142) = w4 at *
    clear HX3 HB13 HO3 c0 c1 c2 c3 c4 c5 c6
    refine wp_loop_rounds 1 ?_
    rw [rounds_succ]
    have c5 := HX4.out.cell 5 (v := .slice A 4 c) rfl
    go_wp2_with fail
    clear c5
    refine (each_pts w1 w1.heap.size bw A 4 c f g (by decide) [2] (by decide) _ HB14.out.size (Nat.le_refl _) HP1.out HB14.out HW4.out).mono ?_
    rintro e w5 ⟨rfl, h5, g5⟩
    have HW5 := Lib.hid h5; have HX5 := Lib.hid (g5.keep _ _ _ (by decide) HNE.out HX4.out); have HB15 := Lib.hid (HB14.out.trans g5.below); clear h5 g5 HW4 HX4 HB14
    have c6 := HX5.out.cell 6 (v := .slice Q 0 qc) rfl
    go_wp2_with fail
    refine (each_qus0 Q qc _ _).mono ?_
    rintro e w6 ⟨rfl, rfl⟩
    obtain ⟨-, v5, hbw, hov⟩ := HW5.out
    have cw := hbw.cell 0 (v := v5) rfl
    clear hbw hov
    go_wp2_with fail
    go_ret2
    exact ⟨⟨_, rfl⟩, HB1.out.trans (HB15.out.mono HB1.out.size)⟩
end Go.Proofs.YtjdiilkljgljkaaGreatDoor
namespace Go.Proofs.YtjdiilkljgljkaaGreatDoor
set_option linter.unusedVariables false
set_option linter.unusedSimpArgs false
open Go.RowKit Wd

theorem push_set {α : Type _} (a : Array α) (x y : α) : (a.push x).setIfInBounds a.size y = a.push y := by
  apply Array.ext
  · simp
  · intro i h1 h2
    simp only [Array.size_push] at h2
    rw [Array.getElem_setIfInBounds (by simpa using h2)]
    by_cases h : a.size = i
    · subst h; simp
    · rw [if_neg h, Array.getElem_push_lt (by omega), Array.getElem_push_lt (by omega)]
theorem isKey64 (k : Int) : MapKept.IsKey (.int .i64) (.int .i64 k) := by simp [MapKept.IsKey]
theorem run_insert_new {P : Program} {t kt et : TypeId} (ht : P.underlying t = some (.map kt et)) (hk : P.underlying kt = some (.int .i64)) (w : World) (es : Array MapEntry) (clock : Nat) (k : Int) (v : Value)
    (hf : Instr.findNow (.int .i64) (.int .i64 k) es.toList 0 = some none) :
    (Instr.mapUpdate t (.map (some w.heap.size)) (.int .i64 k) v).run P (w.alloc (.map es clock)) = .ok () (w.alloc (.map (es.push { key := .int .i64 k, val := v, born := clock }) (clock + 1))) := by
  have hb : (w.alloc (.map es clock)).heap[w.heap.size]? = some (.map es clock) := heap_alloc_new w _
  simp [Instr.mapUpdate, run_underlying ht, MapKept.run_getObj_map hb, MapKept.run_checkKey hk (isKey64 k) false 9999, MapKept.run_findKey hk hf, MapKept.run_setObj_map _ hb, Result.andThen]
  unfold World.alloc
  simp [push_set]
theorem run_lookup_at {P : Program} {t kt et : TypeId} (ht : P.underlying t = some (.map kt et)) (hk : P.underlying kt = some (.int .i64)) (w : World) (m : Nat) (es : Array MapEntry) (clock : Nat) (k : Int) (v : Value) (i : Nat)
    (hb : w.heap[m]? = some (.map es clock)) (hf : Instr.findNow (.int .i64) (.int .i64 k) es.toList 0 = some (some (i, v))) :
    (Instr.lookup t (.map (some m)) (.int .i64 k) true).run P w = .ok (.tuple #[v, .bool true]) w := by
  simp [Instr.lookup, run_underlying ht, MapKept.run_getObj_map hb, MapKept.run_checkKey hk (isKey64 k) _ 9999, MapKept.run_findKey hk hf, Result.andThen]
/-- the entries of the table of operations -/
def opE : Array MapEntry := #[⟨.int .i64 1, .agg #[.func (.func 142) #[] #[]], 0⟩, ⟨.int .i64 2, .agg #[.func (.func 143) #[] #[]], 1⟩, ⟨.int .i64 3, .agg #[.func (.func 145) #[] #[]], 2⟩, ⟨.int .i64 4, .agg #[.func (.func 147) #[] #[]], 3⟩]
def OpsM (w : World) (m : Nat) : Prop := w.heap[m]? = some (.map opE 4)
theorem Stay.ops (m : Nat) : Stay (fun w => OpsM w m) :=
  ⟨fun w w' b h => (b.block m (Array.getElem?_eq_some_iff.1 h).1).trans h, fun w B cs ty _ _ hb k v h => by
    refine (heap_setCell_other w ⟨B, k, none⟩ m v (fun e => ?_)).trans h
    obtain rfl : m = B := e
    have := (show w.heap[m]? = _ from hb).symm.trans h
    simp at this⟩
set_option maxHeartbeats 4000000 in
set_option maxRecDepth 100000 in
theorem engine_operations (w : World) :
    Calls Tryz.prog 122 #[] w fun e w' => e = .returned (.map (some w.heap.size)) ∧ OpsM w' w.heap.size ∧ Below w.heap.size w w' := by
  have hmm := @run_makeMap Tryz.prog
  have h1 := run_insert_new (P := Tryz.prog) Tryz.underlying182 Tryz.underlying3 w #[] 0 1 (.agg #[.func (.func 142) #[] #[]]) rfl
  have h2 := run_insert_new (P := Tryz.prog) Tryz.underlying182 Tryz.underlying3 w #[⟨.int .i64 1, .agg #[.func (.func 142) #[] #[]], 0⟩] 1 2 (.agg #[.func (.func 143) #[] #[]]) rfl
  have h3 := run_insert_new (P := Tryz.prog) Tryz.underlying182 Tryz.underlying3 w #[⟨.int .i64 1, .agg #[.func (.func 142) #[] #[]], 0⟩, ⟨.int .i64 2, .agg #[.func (.func 143) #[] #[]], 1⟩] 2 3 (.agg #[.func (.func 145) #[] #[]]) rfl
  have h4 := run_insert_new (P := Tryz.prog) Tryz.underlying182 Tryz.underlying3 w #[⟨.int .i64 1, .agg #[.func (.func 142) #[] #[]], 0⟩, ⟨.int .i64 2, .agg #[.func (.func 143) #[] #[]], 1⟩, ⟨.int .i64 3, .agg #[.func (.func 145) #[] #[]], 2⟩] 3 4 (.agg #[.func (.func 147) #[] #[]]) rfl
  simp only [List.push_toArray, List.nil_append, List.cons_append] at h1 h2 h3 h4
  go_enter Tryz.func122, Tryz.ntmps122
  go_wp2_with fail
  go_ret
  exact ⟨rfl, heap_alloc_new _ _, below_al below_rf⟩
end Go.Proofs.YtjdiilkljgljkaaGreatDoor
namespace Go.Proofs.YtjdiilkljgljkaaGreatDoor
set_option linter.unusedVariables false
set_option linter.unusedSimpArgs false
set_option maxRecDepth 20000
open Go.RowKit Wd

theorem info_u64 : (Tryz.prog.info? 61).map (fun i => (i.zero, i.size, i.bytes)) = some (some (.int .u64 0), 1, 8) := by kernel_rfl

/-- slices.Clone of a slice that is not nil: a row of the call's own -/
theorem clone_some (b off n c : Nat) (f : Nat → Int) (w : World) (h : Sl w .u64 (some ⟨b, off, none⟩) n c f) (h0 : 0 < n) (hn : n ≤ 65536) :
    Calls Tryz.prog 102 #[.slice (some ⟨b, off, none⟩) n c] w fun e w' => ∃ g cap, e = .returned (.slice (some ⟨g, 0, none⟩) n cap) ∧ w'.ownsRow w.heap.size 61 1 (.slice (some ⟨g, 0, none⟩) n cap) n (row .u64 f n) ∧ Below w.heap.size w w' := by
  obtain ⟨i0, hi0, hz0, hz1, hz2⟩ := info_parts info_u64
  have hq : ∀ (w : World) (a : Option Addr) (n c n' c' : Nat), (binOp .eql 93 (.slice a n c) (.slice none n' c')).run Tryz.prog w = .ok (.bool a.isNone) w := fun w a n c n' c' => Lib.run_eql_slice_nil w _ _ a n c n' c' Tryz.underlying93
  obtain ⟨b', off', e, hlt, hc⟩ := h.at_ h0
  simp only [Option.some.injEq, Addr.mk.injEq, and_true] at e
  obtain ⟨rfl, rfl⟩ := e
  have hcells := Sl.cells (w := w) (c := c) hc
  have hcells' : ∀ j u, (row .u64 f n)[j]? = some u → (w.alloc (.cells #[] 61)).cell? ((⟨b, off, none⟩ : Addr).add j) = some u := by
    intro j u hu
    rw [World.cell?_alloc_lt _ _ _ (by unfold Addr.add; split <;> exact hlt)]
    exact hcells j u hu
  have HC := Lib.hid hcells'; clear hcells hcells' hc
  go_enter Tryz.func102, Tryz.ntmps102
  go_wp2_with (at_builtin; refine wpList_append_own _ rfl _ _ 93 rfl w.heap.size 61 i0 (.int .u64 0) 1 8 Tryz.underlying93 hi0 hz0 hz1 hz2 rfl (by decide) _ 0 [] rfl ?c0 ⟨b, off, none⟩ n c (row .u64 f n) rfl (by rw [row_length]; omega) HC.out (row_one _ _ _) (by unfold maxLen; omega) (by omega) (by simp) ?_)
  case c0 => exact World.ownsRow_lit w #[] 0 (Nat.le_refl _) (Nat.zero_le _) rfl
  intro v' w1 hown hgrow _
  have hB : Below w.heap.size w w1 := ((Below.refl w.heap.size w).alloc (Nat.le_refl _) _).grown hgrow (by simp) (by intro k hk; simp [Value.ownBlock, Act.eval] at hk; omega)
  go_wp2
  go_ret
  have hown' : w1.ownsRow w.heap.size 61 1 v' n (row .u64 f n) := by simpa using hown
  obtain ⟨g, cap, hv, -, -⟩ := hown'.form h0
  subst hv
  exact ⟨g, cap, rfl, hown', hB⟩

/-- the length of a slice value -/
def lenOf : Value → Nat | .slice _ n _ => n | _ => 0
theorem World.ownsRow_le {w : World} {base base' size n : Nat} {e : TypeId} {v : Value} {xs : List Value} (h : w.ownsRow base e size v n xs) (hb : base' ≤ base) : w.ownsRow base' e size v n xs := by
  obtain ⟨h1, h2⟩ := h
  refine ⟨h1, ?_⟩
  rcases h2 with h2 | ⟨g, cap, cur, hv, hg, r⟩
  · exact Or.inl h2
  · exact Or.inr ⟨g, cap, cur, hv, Nat.le_trans hb hg, r⟩

/-- what limb.Extend does where its argument is an integer: loop and cut -/
theorem limb_Extend (A : Option Addr) (n c : Nat) (x : Int) (mi : Int) (m : Nat) (hmi : mi = m) (w : World) (h : Sl w .u64 A n c (lmb x)) (hx : Fit n x) (hn : isN n = true) (hm : isN m = true) :
    Calls Tryz.prog 74 #[.slice A n c, .int .i64 mi] w fun e w' => ∃ A' c', e = .returned (.slice A' m c') ∧ Sl w' .u64 A' m c' (lmb x) ∧ Below w.heap.size w w' := by
  subst hmi
  obtain ⟨i0, hi0, hz0, hz1, hz2⟩ := info_parts info_u64
  have hn' := isN_true hn
  have hm' := isN_true hm
  obtain ⟨b, off, rfl, hlt, hc⟩ := h.at_ (by omega)
  have hfill : msk (decide (9223372036854775808 ≤ lmb x (n - 1))) = msk (decide (x < 0)) := by
    obtain ⟨k, rfl⟩ : ∃ k, n = k + 1 := ⟨n - 1, by omega⟩
    rw [Nat.add_sub_cancel, decide_eq_decide.2 (top_neg hx)]
  have hmax := h.max
  have hcap := h.cap
  have HN := Lib.hid hn; have HM := Lib.hid hm; have HC := Lib.hid hc; have HF := Lib.hid hfill; have HX := Lib.hid hx
  clear hn hm hc hfill hx
  go_enter Tryz.func74, Tryz.ntmps74
  go_wp2_with fail
  refine (limb_is1 _ (some ⟨b, off, none⟩) n c (by omega) _ (by simp [go_sem])).mono ?_
  rintro e w1 ⟨rfl, rfl⟩
  rw [HN.out]
  go_wp2_with fail
  refine (clone_some b off n c (lmb x) _ (h.alloc _) (by omega) (by omega)).mono ?_
  rintro e w1 ⟨g, cap, rfl, hown, hb1⟩
  have hb2 : Below w.heap.size w w1 := ((Below.refl w.heap.size w).alloc (Nat.le_refl _) _).trans (hb1.mono (by simp))
  have hc1 : w1.cell? ⟨b, off + (n - 1), none⟩ = some (.int .u64 (lmb x (n - 1))) := (hb2.cell (p := ⟨b, off + (n - 1), none⟩) hlt).trans (HC.out (n - 1) (by omega))
  go_wp2_with fail
  refine (word_Fill _ (isW_lmb x (n - 1)) _).mono ?_
  rintro e w2 ⟨rfl, rfl⟩
  rw [HF.out]
  clear hc1
  have hown' : w1.ownsRow w.heap.size 61 1 (.slice (some ⟨g, 0, none⟩) n cap) n (row .u64 (lmb x) n) := World.ownsRow_le hown (by simp)
  have HO := Lib.hid hown'; clear hown hown'
  have HB := Lib.hid hb2; clear hb2 hb1
  go_wp2_with fail
  go_loopw [5] (fun v wr => ∃ k g cap : Nat, v = .slice (some ⟨g, 0, none⟩) k cap ∧ n ≤ k ∧ k ≤ n + m ∧ (n < k → k ≤ m) ∧ wr.ownsRow w.heap.size 61 1 (.slice (some ⟨g, 0, none⟩) k cap) k (row .u64 (lmb x) k) ∧ Below w.heap.size w wr)
    (fun v _ => m - lenOf v)
  case atStart => exact ⟨n, g, cap, rfl, Nat.le_refl _, by omega, by omega, HO.out, HB.out⟩
  case round =>
    clear HO HB
    obtain ⟨k, g, cap, rfl, hk1, hk2, hk3, hown, hb⟩ := hrel
    by_cases hlt' : k < m
    · go_wp2_with (at_builtin; refine wpList_append_own _ rfl _ _ 93 rfl w.heap.size 61 i0 (.int .u64 0) 1 8 Tryz.underlying93 hi0 hz0 hz1 hz2 rfl (by decide) _ _ _ rfl (hown.alloc _) ⟨wr.heap.size, 0, none⟩ 1 1 [.int .u64 (msk (decide (x < 0)))] rfl rfl ?c1 ?c2 ?c3 ?c4 ?c5 ?_)
      case c1 => exact cells_one_new _ _ _
      case c2 => exact one_oneCell _ _
      case c3 => unfold maxLen; omega
      case c4 => omega
      case c5 => have := hb.size; simp; omega
      intro v' w2 hown2 hgrow _
      have hb3 : Below w.heap.size w w2 := (hb.alloc hb.size _).grown hgrow (by have := hb.size; simp; omega) (own_block_le hown)
      have hown3 := own_push hown2 (lmb_fill HX.out hk1).symm
      obtain ⟨g2, cap2, hv2, -, -⟩ := hown3.form (by omega)
      subst hv2
      have H3 := Lib.hid hown3; have B3 := Lib.hid hb3
      clear hown2 hgrow hown hb hb3 hown3
      go_wp2
      go_roundw
      case rel => exact ⟨k + 1, g2, cap2, rfl, by omega, by omega, by omega, H3.out, B3.out⟩
      case measure => simp [lenOf]; omega
    · have hsl := Sl.of_own hown
      obtain ⟨A', c', hv, hsl⟩ := hsl
      injection hv with e1 e2 e3
      subst e1 e3
      have hcc := hsl.cap
      have hcm := hsl.max
      have HS := Lib.hid hsl; have HB3 := Lib.hid hb
      clear hsl hown hb
      unfold maxLen at hcm
      go_wp2
      go_ret
      exact ⟨some ⟨g, 0, none⟩, m, rfl, HS.out.take (by omega), HB3.out⟩

theorem sl_word (w : World) (x : Int) (t : TypeId) : Sl (w.alloc (.cells #[.int .u64 (IntKind.u64.wrap x)] t)) .u64 (some ⟨w.heap.size, 0, none⟩) 1 1 (lmb x) :=
  ⟨Nat.le_refl _, by decide, fun _ => ⟨w.heap.size, 0, rfl, by simp, fun i hi => by
    obtain rfl : i = 0 := by omega
    have e : lmb x 0 = IntKind.u64.wrap x := by unfold lmb; rw [qt_zero, IntKind.wrap_u64]
    rw [e]; simp [go_sem]⟩⟩

theorem limb_From (x : Int) (mi : Int) (m : Nat) (hmi : mi = m) (hx : IsI x) (hm : isN m = true) (w : World) :
    Calls Tryz.prog 130 #[.int .i64 x, .int .i64 mi] w fun e w' => ∃ A' c', e = .returned (.slice A' m c') ∧ Sl w' .u64 A' m c' (lmb x) ∧ Below w.heap.size w w' := by
  subst hmi
  have HX := Lib.hid (fit_I hx (Nat.le_refl 1)); clear hx
  have HM := Lib.hid hm; clear hm
  go_enter Tryz.func130, Tryz.ntmps130
  go_wp2_with fail
  refine (limb_Extend _ 1 1 x _ m rfl _ (sl_word w x _) HX.out rfl HM.out).mono ?_
  rintro e w1 ⟨A', c', rfl, hs, hb⟩
  go_wp2_with fail
  go_ret
  exact ⟨A', c', rfl, hs, ((Below.refl w.heap.size w).alloc (Nat.le_refl _) _).trans (hb.mono (by simp))⟩
end Go.Proofs.YtjdiilkljgljkaaGreatDoor
namespace Go.Proofs.YtjdiilkljgljkaaGreatDoor
set_option linter.unusedVariables false
set_option linter.unusedSimpArgs false
open Go.RowKit Wd

theorem word_Add_step (x y : Int) (i : Nat) (w : World) : Calls Tryz.prog 174 #[.int .u64 (lmb x i), .int .u64 (lmb y i), .int .u64 (car x y i)] w fun e w' => e = .returned (.tuple #[.int .u64 (lmb (x + y) i), .int .u64 (car x y (i + 1))]) ∧ w' = w := by
  have h := word_Add _ _ _ (isW_lmb x i) (isW_lmb y i) (isW_car x y i) w
  rw [(add_step x y i).1, (add_step x y i).2] at h
  exact calls_flip h
theorem word_Sub_step (x y : Int) (i : Nat) (w : World) : Calls Tryz.prog 128 #[.int .u64 (lmb x i), .int .u64 (lmb y i), .int .u64 (brw x y i)] w fun e w' => e = .returned (.tuple #[.int .u64 (lmb (x - y) i), .int .u64 (brw x y (i + 1))]) ∧ w' = w := by
  have h := word_Sub _ _ _ (isW_lmb x i) (isW_lmb y i) (isW_brw x y i) w
  rw [(sub_step x y i).1, (sub_step x y i).2] at h
  exact calls_flip h

set_option maxHeartbeats 400000 in
theorem apply_Add (A A' : Option Addr) (n c c' : Nat) (x y : Int) (w : World) (ha : Sl w .u64 A n c (lmb x)) (hb : Sl w .u64 A' n c' (lmb y)) (hn : isN n = true) :
    Calls Tryz.prog 129 #[.agg #[.func (.func 174) #[] #[]], .slice A n c, .slice A' n c', .int .u64 0] w fun e w' => ∃ g, e = .returned (.slice (some ⟨g, 0, none⟩) n n) ∧
      w'.ownsRow w.heap.size 61 1 (.slice (some ⟨g, 0, none⟩) n n) n (row .u64 (lmb (x + y)) n) ∧ Below w.heap.size w w' := by
  obtain ⟨i0, hi0, hz0, hz1, hz2⟩ := info_parts info_u64
  have hn' := isN_true hn
  obtain ⟨b, off, rfl, hlt, hca⟩ := ha.at_ (by omega)
  obtain ⟨b', off', rfl, hlt', hcb⟩ := hb.at_ (by omega)
  have hmax := ha.max; have hmax' := hb.max; have hcap := ha.cap; have hcap' := hb.cap
  have HN := Lib.hid hn; have HA := Lib.hid hca; have HB := Lib.hid hcb
  clear hn hca hcb ha hb
  go_enter Tryz.func129, Tryz.ntmps129
  go_wp2_with fail
  refine (limb_is2 _ (some ⟨b, off, none⟩) (some ⟨b', off', none⟩) n c n c' (by omega) (by omega) _ (by simp [go_sem]) (by simp [go_sem])).mono ?_
  rintro e w1 ⟨rfl, rfl⟩
  rw [HN.out]
  go_wp2_with (at_make; refine wpList_make_full _ rfl _ _ 93 rfl (w.heap.size + 1) 61 i0 (.int .u64 0) 1 Tryz.underlying93 hi0 hz0 hz1 .i64 .i64 (n : Int) (n : Int) n rfl rfl rfl rfl (by rw [hz2]; omega) (by unfold maxLen; omega) (by simp) ?_)
  intro w2 hown hgrow
  have hb2 : Below w.heap.size w w2 := (((Below.refl w.heap.size w).alloc (Nat.le_refl _) _).alloc (by simp) _).grown hgrow (by simp; omega) (by intro k hk; cases hk)
  have hbox : w2.cell? ⟨w.heap.size, 0, none⟩ = some (.func (.func 174) #[] #[]) := by
    rw [World.cell?_of_block (hgrow.block w.heap.size (by simp; omega) (by intro h; cases h))]; simp [go_sem]
  rw [toList_madeCells_one, row_zero .u64 (lmb (x + y)) n] at hown
  have HO := Lib.hid hown; have HX := Lib.hid hbox; have HB2 := Lib.hid hb2
  have hg1 : w.heap.size + 1 + 1 < w2.heap.size := (hown.lt _ rfl).2
  clear hown hbox hgrow hb2
  go_wp2_with fail
  go_loopw [3, 28] (fun cr i wr => ∃ k : Nat, k ≤ n ∧ i = .int .i64 k ∧ cr = .int .u64 (car x y k) ∧ wr.ownsRow (w.heap.size + 1) 61 1 (.slice (some ⟨w.heap.size + 1 + 1, 0, none⟩) n n) n (row .u64 (upd (lmb (x + y)) k) n) ∧ Below (w.heap.size + 1) w2 wr)
    (fun _ i _ => n - (intOf i).toNat)
  case atStart => exact ⟨0, Nat.zero_le _, rfl, by rw [car_zero], HO.out, Below.refl _ _⟩
  case round =>
    clear HO
    obtain ⟨k, hk, rfl, rfl, hown, hbr⟩ := hrel
    by_cases hlt2 : k < n
    · have c1 : wr.cell? ⟨w.heap.size, 0, none⟩ = some (.func (.func 174) #[] #[]) := (hbr.cell (p := ⟨w.heap.size, 0, none⟩) (by simp)).trans HX.out
      have c2 : wr.cell? ⟨b, off + k, none⟩ = some (.int .u64 (lmb x k)) := ((hbr.cell (p := ⟨b, off + k, none⟩) (by simp; omega)).trans (HB2.out.cell (p := ⟨b, off + k, none⟩) hlt)).trans (HA.out k hlt2)
      have c3 : wr.cell? ⟨b', off' + k, none⟩ = some (.int .u64 (lmb y k)) := ((hbr.cell (p := ⟨b', off' + k, none⟩) (by simp; omega)).trans (HB2.out.cell (p := ⟨b', off' + k, none⟩) hlt')).trans (HB.out k hlt2)
      have c4 : wr.cell? ⟨w.heap.size + 1 + 1, k, none⟩ = some (.int .u64 0) := by
        rw [World.ownsRow.cellAt hown k (by omega), row_get hlt2]; simp [upd]
      have c5 : wr.frozen? ⟨w.heap.size + 1 + 1, k, none⟩ = false := World.ownsRow.frozenAt hown k
      have HOW := Lib.hid hown; have HBR := Lib.hid hbr
      clear hown hbr HA HB HX HB2
      go_wp2_with fail
      go_region_held3 (fun w' => w'.cell? ⟨w.heap.size, 0, none⟩ = some (.func (.func 174) #[] #[]) ∧ w'.cell? ⟨b, off + k, none⟩ = some (.int .u64 (lmb x k)) ∧ w'.cell? ⟨b', off' + k, none⟩ = some (.int .u64 (lmb y k))) (first | exact ⟨c1, c2, c3⟩ | exact ⟨cell_far c1 (by simp; omega), cell_far c2 (by simp; omega), cell_far c3 (by simp; omega)⟩) (first | (go_at_call 174; refine (word_Add_step x y k _).mono ?_; rintro e w' ⟨rfl, rfl⟩))
      go_wp2_with fail
      go_roundw
      case rel => exact ⟨k + 1, by omega, by go_num, rfl, (own_store HOW.out rfl hlt2).drew, (HBR.out.setCell (p := ⟨w.heap.size + 1 + 1, k, none⟩) (by simp) _).drew⟩
      case measure => simp [intOf]; omega
    · go_wp2_with fail
      go_ret
      obtain rfl : k = n := by omega
      exact ⟨_, rfl, World.ownsRow_le (by rw [← row_upd_all]; exact hown) (by omega), HB2.out.trans (hbr.mono (by omega))⟩

set_option maxHeartbeats 400000 in
theorem apply_Sub (A A' : Option Addr) (n c c' : Nat) (x y : Int) (w : World) (ha : Sl w .u64 A n c (lmb x)) (hb : Sl w .u64 A' n c' (lmb y)) (hn : isN n = true) :
    Calls Tryz.prog 129 #[.agg #[.func (.func 128) #[] #[]], .slice A n c, .slice A' n c', .int .u64 0] w fun e w' => ∃ g, e = .returned (.slice (some ⟨g, 0, none⟩) n n) ∧
      w'.ownsRow w.heap.size 61 1 (.slice (some ⟨g, 0, none⟩) n n) n (row .u64 (lmb (x - y)) n) ∧ Below w.heap.size w w' := by
  obtain ⟨i0, hi0, hz0, hz1, hz2⟩ := info_parts info_u64
  have hn' := isN_true hn
  obtain ⟨b, off, rfl, hlt, hca⟩ := ha.at_ (by omega)
  obtain ⟨b', off', rfl, hlt', hcb⟩ := hb.at_ (by omega)
  have hmax := ha.max; have hmax' := hb.max; have hcap := ha.cap; have hcap' := hb.cap
  have HN := Lib.hid hn; have HA := Lib.hid hca; have HB := Lib.hid hcb
  clear hn hca hcb ha hb
  go_enter Tryz.func129, Tryz.ntmps129
  go_wp2_with fail
  refine (limb_is2 _ (some ⟨b, off, none⟩) (some ⟨b', off', none⟩) n c n c' (by omega) (by omega) _ (by simp [go_sem]) (by simp [go_sem])).mono ?_
  rintro e w1 ⟨rfl, rfl⟩
  rw [HN.out]
  go_wp2_with (at_make; refine wpList_make_full _ rfl _ _ 93 rfl (w.heap.size + 1) 61 i0 (.int .u64 0) 1 Tryz.underlying93 hi0 hz0 hz1 .i64 .i64 (n : Int) (n : Int) n rfl rfl rfl rfl (by rw [hz2]; omega) (by unfold maxLen; omega) (by simp) ?_)
  intro w2 hown hgrow
  have hb2 : Below w.heap.size w w2 := (((Below.refl w.heap.size w).alloc (Nat.le_refl _) _).alloc (by simp) _).grown hgrow (by simp; omega) (by intro k hk; cases hk)
  have hbox : w2.cell? ⟨w.heap.size, 0, none⟩ = some (.func (.func 128) #[] #[]) := by
    rw [World.cell?_of_block (hgrow.block w.heap.size (by simp; omega) (by intro h; cases h))]; simp [go_sem]
  rw [toList_madeCells_one, row_zero .u64 (lmb (x - y)) n] at hown
  have HO := Lib.hid hown; have HX := Lib.hid hbox; have HB2 := Lib.hid hb2
  have hg1 : w.heap.size + 1 + 1 < w2.heap.size := (hown.lt _ rfl).2
  clear hown hbox hgrow hb2
  go_wp2_with fail
  go_loopw [3, 28] (fun cr i wr => ∃ k : Nat, k ≤ n ∧ i = .int .i64 k ∧ cr = .int .u64 (brw x y k) ∧ wr.ownsRow (w.heap.size + 1) 61 1 (.slice (some ⟨w.heap.size + 1 + 1, 0, none⟩) n n) n (row .u64 (upd (lmb (x - y)) k) n) ∧ Below (w.heap.size + 1) w2 wr)
    (fun _ i _ => n - (intOf i).toNat)
  case atStart => exact ⟨0, Nat.zero_le _, rfl, by rw [brw_zero], HO.out, Below.refl _ _⟩
  case round =>
    clear HO
    obtain ⟨k, hk, rfl, rfl, hown, hbr⟩ := hrel
    by_cases hlt2 : k < n
    · have c1 : wr.cell? ⟨w.heap.size, 0, none⟩ = some (.func (.func 128) #[] #[]) := (hbr.cell (p := ⟨w.heap.size, 0, none⟩) (by simp)).trans HX.out
      have c2 : wr.cell? ⟨b, off + k, none⟩ = some (.int .u64 (lmb x k)) := ((hbr.cell (p := ⟨b, off + k, none⟩) (by simp; omega)).trans (HB2.out.cell (p := ⟨b, off + k, none⟩) hlt)).trans (HA.out k hlt2)
      have c3 : wr.cell? ⟨b', off' + k, none⟩ = some (.int .u64 (lmb y k)) := ((hbr.cell (p := ⟨b', off' + k, none⟩) (by simp; omega)).trans (HB2.out.cell (p := ⟨b', off' + k, none⟩) hlt')).trans (HB.out k hlt2)
      have c4 : wr.cell? ⟨w.heap.size + 1 + 1, k, none⟩ = some (.int .u64 0) := by
        rw [World.ownsRow.cellAt hown k (by omega), row_get hlt2]; simp [upd]
      have c5 : wr.frozen? ⟨w.heap.size + 1 + 1, k, none⟩ = false := World.ownsRow.frozenAt hown k
      have HOW := Lib.hid hown; have HBR := Lib.hid hbr
      clear hown hbr HA HB HX HB2
      go_wp2_with fail
      go_region_held3 (fun w' => w'.cell? ⟨w.heap.size, 0, none⟩ = some (.func (.func 128) #[] #[]) ∧ w'.cell? ⟨b, off + k, none⟩ = some (.int .u64 (lmb x k)) ∧ w'.cell? ⟨b', off' + k, none⟩ = some (.int .u64 (lmb y k))) (first | exact ⟨c1, c2, c3⟩ | exact ⟨cell_far c1 (by simp; omega), cell_far c2 (by simp; omega), cell_far c3 (by simp; omega)⟩) (first | (go_at_call 128; refine (word_Sub_step x y k _).mono ?_; rintro e w' ⟨rfl, rfl⟩))
      go_wp2_with fail
      go_roundw
      case rel => exact ⟨k + 1, by omega, by go_num, rfl, (own_store HOW.out rfl hlt2).drew, (HBR.out.setCell (p := ⟨w.heap.size + 1 + 1, k, none⟩) (by simp) _).drew⟩
      case measure => simp [intOf]; omega
    · go_wp2_with fail
      go_ret
      obtain rfl : k = n := by omega
      exact ⟨_, rfl, World.ownsRow_le (by rw [← row_upd_all]; exact hown) (by omega), HB2.out.trans (hbr.mono (by omega))⟩

theorem limb_Add (A A' : Option Addr) (n c c' : Nat) (x y : Int) (w : World) (ha : Sl w .u64 A n c (lmb x)) (hb : Sl w .u64 A' n c' (lmb y)) (hn : isN n = true) :
    Calls Tryz.prog 170 #[.slice A n c, .slice A' n c'] w fun e w' => ∃ A2 c2, e = .returned (.slice A2 n c2) ∧ Sl w' .u64 A2 n c2 (lmb (x + y)) ∧ Below w.heap.size w w' := by
  go_enter Tryz.func170, Tryz.ntmps170
  go_wp2_with fail
  refine (apply_Add A A' n c c' x y _ ha hb hn).mono ?_
  rintro e w1 ⟨g, rfl, hown, hb1⟩
  obtain ⟨A2, c2, hv, hsl⟩ := Sl.of_own hown
  injection hv with e1 e2 e3
  subst e1 e3
  go_wp2_with fail
  go_ret
  exact ⟨_, _, rfl, hsl, hb1⟩
theorem limb_Sub (A A' : Option Addr) (n c c' : Nat) (x y : Int) (w : World) (ha : Sl w .u64 A n c (lmb x)) (hb : Sl w .u64 A' n c' (lmb y)) (hn : isN n = true) :
    Calls Tryz.prog 106 #[.slice A n c, .slice A' n c'] w fun e w' => ∃ A2 c2, e = .returned (.slice A2 n c2) ∧ Sl w' .u64 A2 n c2 (lmb (x - y)) ∧ Below w.heap.size w w' := by
  go_enter Tryz.func106, Tryz.ntmps106
  go_wp2_with fail
  refine (apply_Sub A A' n c c' x y _ ha hb hn).mono ?_
  rintro e w1 ⟨g, rfl, hown, hb1⟩
  obtain ⟨A2, c2, hv, hsl⟩ := Sl.of_own hown
  injection hv with e1 e2 e3
  subst e1 e3
  go_wp2_with fail
  go_ret
  exact ⟨_, _, rfl, hsl, hb1⟩
end Go.Proofs.YtjdiilkljgljkaaGreatDoor
namespace Go.Proofs.YtjdiilkljgljkaaGreatDoor
set_option linter.unusedVariables false
set_option linter.unusedSimpArgs false
open Go.RowKit Wd

/-- the row while a product's row is under way -/
def mid (x y : Int) (i j : Nat) : Nat → Int := fun k => if k < i + j then lmb (prt x y (i + 1)) k else lmb (prt x y i) k
theorem mid_zero (x y : Int) (i k : Nat) : lmb (prt x y i) k = mid x y i 0 k := by
  unfold mid; split
  · rw [prt_low x y (by omega)]
  · rfl
theorem mid_at (x y : Int) (i j : Nat) : mid x y i j (i + j) = lmb (prt x y i) (i + j) := by unfold mid; rw [if_neg (by omega)]
theorem mid_next (x y : Int) (i j : Nat) : lmb (prt x y (i + 1)) (i + j) = mid x y i (j + 1) (i + j) := by unfold mid; rw [if_pos (by omega)]
theorem mid_other (x y : Int) (i j k : Nat) (h : k ≠ i + j) : mid x y i j k = mid x y i (j + 1) k := by
  unfold mid
  by_cases h1 : k < i + j
  · rw [if_pos h1, if_pos (by omega)]
  · rw [if_neg h1, if_neg (by omega)]
theorem mid_end (x y : Int) (i n k : Nat) (hi : i ≤ n) (hk : k < n) : mid x y i (n - i) k = lmb (prt x y (i + 1)) k := by unfold mid; rw [if_pos (by omega)]

theorem word_MulAdd_step (x y : Int) (i j : Nat) (w : World) : Calls Tryz.prog 151 #[.int .u64 (lmb x i), .int .u64 (lmb y j), .int .u64 (lmb (prt x y i) (i + j)), .int .u64 (kar x y i j)] w fun e w' => e = .returned (.tuple #[.int .u64 (kar x y i (j + 1)), .int .u64 (lmb (prt x y (i + 1)) (i + j))]) ∧ w' = w := by
  have hk := isW_kar x y i j
  have h := word_MulAdd _ _ _ _ (isW_lmb x i) (isW_lmb y j) (isW_lmb (prt x y i) (i + j)) hk w
  rw [(kar_step x y i j hk).1, (kar_step x y i j hk).2.1] at h
  exact calls_flip h

set_option maxRecDepth 100000 in
set_option maxHeartbeats 4000000 in
theorem limb_Mul (A A' : Option Addr) (n c m c' : Nat) (x y : Int) (w : World) (ha : Sl w .u64 A n c (lmb x)) (hb : Sl w .u64 A' m c' (lmb y)) (hx : Fit n x) (hy : Fit m y) (hn : isN n = true) (hm : isN m = true) (hs : n + m ≤ 8) :
    Calls Tryz.prog 127 #[.slice A n c, .slice A' m c'] w fun e w' => ∃ A2 c2, e = .returned (.slice A2 (n + m) c2) ∧ Sl w' .u64 A2 (n + m) c2 (lmb (x * y)) ∧ Below w.heap.size w w' := by
  obtain ⟨i0, hi0, hz0, hz1, hz2⟩ := info_parts info_u64
  have hn' := isN_true hn
  have hm' := isN_true hm
  have hmax := ha.max; have hmax' := hb.max; have hcap := ha.cap; have hcap' := hb.cap
  have hN : isN (n + m) = true := by simp [isN]; omega
  have hI : (isN n && isN m) = true := by rw [hn, hm]; rfl
  have HI := Lib.hid hI; have HN := Lib.hid hn; have HM := Lib.hid hm; have HNM := Lib.hid hN; have HX := Lib.hid hx; have HY := Lib.hid hy
  clear hI hn hm hN hx hy
  have hd : decide (8 < (n : Int) + (m : Int)) = false := by simp; omega
  go_enter Tryz.func127, Tryz.ntmps127
  go_wp2_with fail
  refine (limb_is2 _ A A' n c m c' (by omega) (by omega) _ (by simp [go_sem]) (by simp [go_sem])).mono ?_
  rintro e w1 ⟨rfl, rfl⟩
  rw [HI.out]
  go_wp2_with fail
  refine (limb_Extend A n c x _ (n + m) (by omega) _ (ha.alloc _) HX.out HN.out HNM.out).mono ?_
  rintro e w1 ⟨X, cx, rfl, hsx, hb1⟩
  have hbb1 : Below w.heap.size w w1 := ((Below.refl w.heap.size w).alloc (Nat.le_refl _) _).trans (hb1.mono (by simp))
  have hb' := hb.below hbb1 (Nat.le_refl _)
  go_wp2_with fail
  refine (limb_Extend A' m c' y _ (n + m) (by omega) _ hb' HY.out HM.out HNM.out).mono ?_
  rintro e w2 ⟨Y, cy, rfl, hsy, hb2⟩
  have hsx2 := hsx.below hb2 (Nat.le_refl _)
  have hbb2 : Below w.heap.size w w2 := hbb1.trans (hb2.mono hbb1.size)
  clear hsx hb1 hb2 hb' hbb1 ha hb
  obtain ⟨xb, xo, rfl, hxlt, hxc⟩ := hsx2.at_ (by omega)
  obtain ⟨yb, yo, rfl, hylt, hyc⟩ := hsy.at_ (by omega)
  have hxcap := hsx2.cap; have hycap := hsy.cap; have hxm := hsx2.max; have hym := hsy.max
  have HXC := Lib.hid hxc; have HYC := Lib.hid hyc; have HBB := Lib.hid hbb2
  clear hsx2 hsy hxc hyc hbb2
  go_wp2_with (at_make; refine wpList_make_full _ rfl _ _ 93 rfl w2.heap.size 61 i0 (.int .u64 0) 1 Tryz.underlying93 hi0 hz0 hz1 .i64 .i64 ((n : Int) + (m : Int)) ((n : Int) + (m : Int)) (n + m) rfl rfl (by omega) (by omega) (by rw [hz2]; omega) (by unfold maxLen; omega) (Nat.le_refl _) ?_)
  intro w3 hown hgrow
  have hb3 : Below w2.heap.size w2 w3 := (Below.refl _ _).grown hgrow (Nat.le_refl _) (by intro k hk; cases hk)
  rw [toList_madeCells_one, row_zero .u64 (lmb 0) (n + m), row_congr (g := lmb (prt x y 0)) (by intro i _; simp [upd, prt_zero, lmb_zero])] at hown
  have HO := Lib.hid hown; have HB3 := Lib.hid hb3
  have hg1 : w2.heap.size < w3.heap.size := (hown.lt _ rfl).2
  clear hown hb3 hgrow
  go_wp2_with fail
  go_loopw [35] (fun i wr => ∃ k : Nat, k ≤ n + m ∧ i = .int .i64 k ∧ wr.ownsRow w2.heap.size 61 1 (.slice (some ⟨w2.heap.size, 0, none⟩) (n + m) (n + m)) (n + m) (row .u64 (lmb (prt x y k)) (n + m)) ∧ Below w2.heap.size w2 wr)
    (fun i _ => n + m - (intOf i).toNat)
  case atStart => exact ⟨0, Nat.zero_le _, rfl, HO.out, HB3.out⟩
  case round =>
    clear HO HB3
    obtain ⟨k, hk, rfl, hown, hbr⟩ := hrel
    by_cases hlt2 : k < n + m
    · obtain ⟨wo, rfl⟩ : ∃ wo : World, wo = wr := ⟨_, rfl⟩
      have HOW := Lib.hid hown; have HBR := Lib.hid hbr
      clear hown hbr
      have hd2 : decide ((k : Int) < (n : Int) + (m : Int)) = true := by simp; omega
      go_wp2_with fail
      go_loopw [10, 41] (fun cr j wr => ∃ l : Nat, l ≤ n + m - k ∧ j = .int .i64 l ∧ cr = .int .u64 (kar x y k l) ∧ wr.ownsRow w2.heap.size 61 1 (.slice (some ⟨w2.heap.size, 0, none⟩) (n + m) (n + m)) (n + m) (row .u64 (mid x y k l) (n + m)) ∧ Below w2.heap.size w2 wr)
        (fun _ j _ => n + m - k - (intOf j).toNat)
      case atStart => exact ⟨0, Nat.zero_le _, rfl, by rw [kar_zero], own_congr HOW.out (fun i _ => mid_zero x y k i), HBR.out⟩
      case round =>
        clear HOW HBR
        obtain ⟨l, hl, rfl, rfl, hown, hbr⟩ := hrel
        by_cases hlt3 : l < n + m - k
        · have c1 : wr.cell? ⟨xb, xo + k, none⟩ = some (.int .u64 (lmb x k)) := (hbr.cell (p := ⟨xb, xo + k, none⟩) hxlt).trans (HXC.out k hlt2)
          have c2 : wr.cell? ⟨yb, yo + l, none⟩ = some (.int .u64 (lmb y l)) := (hbr.cell (p := ⟨yb, yo + l, none⟩) hylt).trans (HYC.out l (by omega))
          have c3 : wr.cell? ⟨w2.heap.size, k + l, none⟩ = some (.int .u64 (lmb (prt x y k) (k + l))) := by rw [← mid_at x y k l]; exact own_cell hown (by omega)
          have c4 : wr.frozen? ⟨w2.heap.size, k + l, none⟩ = false := World.ownsRow.frozenAt hown (k + l)
          have HOW := Lib.hid hown; have HBR := Lib.hid hbr
          clear hown hbr HXC HYC HI HN HM HNM HX HY
          go_wp2_with fail
          have s1 : IntKind.i64.wrap ((k : Int) + (l : Int)) = (k : Int) + (l : Int) := IntWalk.i64_in _ (by omega)
          have s2 : (0 : Int) ≤ (k : Int) + (l : Int) := by omega
          have s3 : ((k : Int) + (l : Int)).toNat = k + l := by omega
          have s4 : (k : Int) + (l : Int) < (n : Int) + (m : Int) := by omega
          have s5 : (k : Int) < (n : Int) + (m : Int) := by omega
          have s6 : (l : Int) < (n : Int) + (m : Int) := by omega
          go_region_with (go_at_call 151; refine (word_MulAdd_step x y k l _).mono ?_; rintro e w' ⟨rfl, rfl⟩)
          all_goals
            clear s1 s3
            go_wp2_with fail
            go_roundw
            case rel => exact ⟨l + 1, by omega, by go_num, rfl, (own_set HOW.out (mid_next x y k l) (fun i _ hne => mid_other x y k l i hne)).drew, (HBR.out.setCell (p := ⟨w2.heap.size, k + l, none⟩) (Nat.le_refl _) _).drew⟩
            case measure => simp [intOf]; omega
        · have hown' := own_congr hown (g := lmb (prt x y (k + 1))) (fun i hi => by rw [show l = n + m - k from by omega]; exact mid_end x y k (n + m) i hk hi)
          have HOW := Lib.hid hown'; have HBR := Lib.hid hbr
          clear hown hown' hbr
          go_wp2_with fail
          go_roundw
          case rel => exact ⟨k + 1, by omega, by go_num, HOW.out, HBR.out⟩
          case measure => simp [intOf]; omega
    · obtain rfl : k = n + m := by omega
      obtain ⟨A2, c2, hv, hsl⟩ := Sl.of_own hown
      injection hv with e1 e2 e3
      subst e1 e3
      have HSL := Lib.hid (hsl.congr (g := lmb (x * y)) (fun i hi => prt_last x y hi)); have HBR := Lib.hid hbr
      clear hown hsl hbr
      go_wp2_with fail
      go_ret
      exact ⟨_, _, rfl, HSL.out, HBB.out.trans (HBR.out.mono HBB.out.size)⟩
end Go.Proofs.YtjdiilkljgljkaaGreatDoor
