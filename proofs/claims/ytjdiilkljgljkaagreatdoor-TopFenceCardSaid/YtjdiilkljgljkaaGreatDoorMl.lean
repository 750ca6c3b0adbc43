/- The reference's bytes of a header with regions (operation 5). The reference's Encode at requests with regions. The bytes of requests with regions by the reference: about a fence, and of a batch. The bytes of a request about a fence. The bounds of the tests: whether a batch is too large. The answer about a fence does not depend on the order of the regions: reversal. Plain facts; no program's run. Tables of numbers and facts by which contracts of the shelf serve at this program (written by the kit's tool). No program's run. slices.Clone and slices.Reverse at regions. How an argument that is a slice of regions is opened. Plain readings of values; no program's run. -/
import Derived.Test.YtjdiilkljgljkaaGreatDoorMk
import Derived.Test.YtjdiilkljgljkaaGreatDoorMj
import Derived.Test.YtjdiilkljgljkaaGreatDoorMb
import Derived.Test.YtjdiilkljgljkaaGreatDoorMe
import Derived.Shelf.SlicesQ.Reverse
import Derived.Ground.SlgnProg
import Derived.Test.YtjdiilkljgljkaaGreatDoorProg
import Derived.Laws.AppendOwn
import Derived.Test.YtjdiilkljgljkaaGreatDoorMa
import Derived.ChangeArms
namespace Go.Proofs.YtjdiilkljgljkaaGreatDoor
set_option linter.unusedVariables false
set_option linter.unusedSimpArgs false
open Go.RowKit Wd


set_option maxHeartbeats 4000000 in
set_option maxRecDepth 100000 in
theorem ref17_Format5 (p : Int) (hp1 : 1 ≤ p) (hp2 : p ≤ 4096) (A : Option Addr) (n c : Nat) (d : Nat → Bool) (v : Nat → Int) (Q : Nat → Option Addr × Nat × Nat) (ho : OkK n v) (hq : ∀ k, k < n → (Q k).2.1 = 0) (w : World) (hr : Rgs w A n c d v Q) :
    Calls Tryz.prog 43 #[.agg #[.int .i64 5, .int .i64 0, .slice A n c, .int .i64 p]] w fun e w' => (∃ v', e = .returned (.tuple #[v', .int .i64 0]) ∧ OwB w' w.heap.size v' (hdrB 5 n d v p)) ∧ Below w.heap.size w w' := by
  obtain ⟨i0, hi0, hz0, hz1, hz2⟩ := info_parts infoB
  have HR := Lib.hid hr; have HO := Lib.hid ho; have HQ := Lib.hid hq
  have hcp := hr.cap
  have hmx := hr.max
  have h1 := ho.pos
  have h2 := ho.le
  clear hr ho hq
  unfold maxLen at hmx
  obtain ⟨b, off, rfl, hbl, hc⟩ := HR.out.at_ (by omega)
  have HC := Lib.hid hc; have HBL := Lib.hid hbl; clear hc hbl
  go_enter Tryz.func43, Tryz.ntmps43
  go_wp2_with fail
  have HX := Lib.hid (Bx.new w #[.int .i64 5, .int .i64 0, .slice (some ⟨b, off, none⟩) n c, .int .i64 p] 28)
  have HB1 := Lib.hid (show Below w.heap.size w (w.alloc (.cells #[.int .i64 5, .int .i64 0, .slice (some ⟨b, off, none⟩) n c, .int .i64 p] 28)) from below_al below_rf)
  generalize w.alloc (.cells #[.int .i64 5, .int .i64 0, .slice (some ⟨b, off, none⟩) n c, .int .i64 p] 28) = w1 at *
  have c0 := HX.out.cell 0 (v := .int .i64 5) rfl
  have c1 := HX.out.cell 1 (v := .int .i64 0) rfl
  have c2 := HX.out.cell 2 (v := .slice (some ⟨b, off, none⟩) n c) rfl
  have c3 := HX.out.cell 3 (v := .int .i64 p) rfl
  go_wp2_with fail
  clear c0 c1 c2 c3
  go_loopw [4] (fun ir wr => ∃ k : Nat, k ≤ n ∧ ir = .int .i64 (k : Int) ∧ Below w1.heap.size w1 wr) (fun i _ => n - (intOf i).toNat)
  case atStart => exact ⟨0, by omega, rfl, below_rf⟩
  case round =>
    obtain ⟨k, hk, rfl, hb_⟩ := hrel
    have HBR := Lib.hid hb_; clear hb_
    have HXR := Lib.hid (HX.out.below HBR.out (Nat.le_refl _))
    have HB := Lib.hid (HB1.out.trans (HBR.out.mono HB1.out.size))
    by_cases hlt : k < n
    · have p0 : wr.cell? ⟨b, off + k * 3, none⟩ = some (.bool (d k)) := (HB.out.cell (p := ⟨b, off + k * 3, none⟩) HBL.out).trans (HC.out k hlt).1
      have p1 : wr.cell? ⟨b, off + k * 3 + 1, none⟩ = some (.int .i64 (v k)) := (HB.out.cell (p := ⟨b, off + k * 3 + 1, none⟩) HBL.out).trans (HC.out k hlt).2.1
      have p2 : wr.cell? ⟨b, off + k * 3 + 2, none⟩ = some (.slice (Q k).1 (Q k).2.1 (Q k).2.2) := (HB.out.cell (p := ⟨b, off + k * 3 + 2, none⟩) HBL.out).trans (HC.out k hlt).2.2
      have hms := Lib.hid (show n - (intOf (.int .i64 ((k : Int) + 1))).toNat < n - (intOf (.int .i64 (k : Int))).toNat from by simp [intOf]; omega)
      have hz := HO.out.kind k hlt
      have c2 := HXR.out.cell 2 (v := .slice (some ⟨b, off, none⟩) n c) rfl
      go_wp2_with fail
      clear p0 p1 p2 c2
      refine (ref16_Size (v k) _).mono ?_
      rintro e w5 ⟨rfl, rfl⟩
      go_wp2_with fail
      go_roundw
      case rel => exact ⟨k + 1, hlt, by go_num, HBR.out⟩
      case measure => exact hms.out
    · obtain rfl : k = n := by omega
      have c0 := HXR.out.cell 0 (v := .int .i64 5) rfl
      have c1 := HXR.out.cell 1 (v := .int .i64 0) rfl
      have c2 := HXR.out.cell 2 (v := .slice (some ⟨b, off, none⟩) k c) rfl
      have c3 := HXR.out.cell 3 (v := .int .i64 p) rfl
      have hxlt := HXR.out.lt
      have hsz := HB.out.size
      have en := wrap_u8_le (x := (k : Int)) (by omega) (by omega)
      have HO1 := Lib.hid (show OwB (wr.alloc (.cells #[.int .u8 5] 5)) w.heap.size (.slice (some ⟨wr.heap.size, 0, none⟩) 1 1) [5] from ⟨rfl, .inr ⟨wr.heap.size, 1, #[.int .u8 5], rfl, hsz, Bx.new _ _ _, Nat.le_refl _, by decide, rfl, rfl⟩⟩)
      go_wp2_with (at_builtin; refine wpList_append_own _ rfl _ _ 24 rfl w.heap.size 5 i0 (.int .u8 0) 1 1 Tryz.underlying24 hi0 hz0 hz1 hz2 rfl (by decide) _ _ _ rfl (HO1.out.alloc _) ⟨wr.heap.size + 1, 0, none⟩ 1 1 [.int .u8 (k : Int)] rfl rfl ?c1 ?c2 ?c3 ?c4 ?c5 ?_)
      case c1 => exact cells_one_at (by simp) _ _
      case c2 => simp [Value.oneCell']
      case c3 => skip; first | decide | (unfold maxLen; omega)
      case c4 => skip; first | decide | omega
      case c5 => first | (simp; done) | (simp; omega)
      intro v' w' hown2 hgrow _
      have HF3 := Lib.hid ((((Fr.refl w.heap.size none wr).alloc hsz (.cells #[.int .u8 5] 5)).alloc (Nat.le_trans hsz (by simp)) (.cells #[.int .u8 (k : Int)] 5)).grown hgrow (HO1.out.alloc _) (Nat.le_trans hsz (by simp; omega)))
      have HO3 := Lib.hid (show OwB w' w.heap.size v' (5 :: (k : Int) :: codL d v 0) from OwB.snoc (l := [5]) hown2 rfl)
      clear hown2 hgrow HO1 c0 c1 c2 c3 en hxlt hsz
      have HX3 := Lib.hid (HF3.out.keep _ _ _ (by decide) (by simp) HXR.out)
      have c0 := HX3.out.cell 0 (v := .int .i64 5) rfl
      have c1 := HX3.out.cell 1 (v := .int .i64 0) rfl
      have c2 := HX3.out.cell 2 (v := .slice (some ⟨b, off, none⟩) k c) rfl
      have c3 := HX3.out.cell 3 (v := .int .i64 p) rfl
      go_wp2_with fail
      clear c0 c1 c2 c3
      generalize wr = wq at *
      go_loopw [5, 6] (fun vr ir wx => ∃ j : Nat, j ≤ k ∧ ir = .int .i64 (j : Int) ∧ OwB wx w.heap.size vr (5 :: (k : Int) :: codL d v j) ∧ Fr w.heap.size none wq wx) (fun _ i _ => k - (intOf i).toNat)
      case atStart => exact ⟨0, by omega, rfl, HO3.out, HF3.out⟩
      case round =>
        obtain ⟨j, hj, rfl, hown, hfr⟩ := hrel
        have HOW := Lib.hid hown; have HFR := Lib.hid hfr; clear hown hfr
        have HBJ := Lib.hid (HB.out.trans HFR.out.below)
        have HXJ := Lib.hid (HFR.out.keep _ _ _ (by decide) (by simp) HXR.out)
        have hsz := HBJ.out.size
        have hxlt := HXJ.out.lt
        by_cases hlt : j < k
        · have p0 : wr.cell? ⟨b, off + j * 3, none⟩ = some (.bool (d j)) := (HBJ.out.cell (p := ⟨b, off + j * 3, none⟩) HBL.out).trans (HC.out j hlt).1
          have p1 : wr.cell? ⟨b, off + j * 3 + 1, none⟩ = some (.int .i64 (v j)) := (HBJ.out.cell (p := ⟨b, off + j * 3 + 1, none⟩) HBL.out).trans (HC.out j hlt).2.1
          have p2 : wr.cell? ⟨b, off + j * 3 + 2, none⟩ = some (.slice (Q j).1 (Q j).2.1 (Q j).2.2) := (HBJ.out.cell (p := ⟨b, off + j * 3 + 2, none⟩) HBL.out).trans (HC.out j hlt).2.2
          have hq0 := HQ.out j hlt
          rw [hq0] at p2
          clear hq0
          have hms := Lib.hid (show k - (intOf (.int .i64 ((j : Int) + 1))).toNat < k - (intOf (.int .i64 (j : Int))).toNat from by simp [intOf]; omega)
          have HRG := Lib.hid (HO.out.range hlt)
          have c2 := HXJ.out.cell 2 (v := .slice (some ⟨b, off, none⟩) k c) rfl
          have e1 := wrap_u8_le (x := v j) HRG.out.1 (by have := HRG.out.2.1; omega)
          have e2 : IntKind.i64.wrap (v j + 128) = v j + 128 := by have := HRG.out; rw [IntKind.wrap_i64]; omega
          have e3 := wrap_u8_le (x := v j + 128) (by have := HRG.out.1; omega) (by have := HRG.out.2.1; omega)
          have HLN := Lib.hid (show (5 :: (k : Int) :: codL d v j).length = j + 2 from by simp [codL_len])
          cases hd : d j
          · have HCB := Lib.hid (show codB d v j = v j from by unfold codB; rw [hd]; rfl)
            rw [hd] at p0
            clear hd
            go_wp2_with (at_builtin; refine wpList_append_own _ rfl _ _ 24 rfl w.heap.size 5 i0 (.int .u8 0) 1 1 Tryz.underlying24 hi0 hz0 hz1 hz2 rfl (by decide) _ _ _ rfl (HOW.out.alloc (.cells #[.int .u8 (v j)] 5)) ⟨wr.heap.size, 0, none⟩ 1 1 [.int .u8 (v j)] rfl rfl ?c1 ?c2 ?c3 ?c4 ?c5 ?_)
            case c1 => exact cells_one_at (by simp) _ _
            case c2 => simp [Value.oneCell']
            case c3 => have := HLN.out; first | decide | (unfold maxLen; omega)
            case c4 => have := HLN.out; first | decide | omega
            case c5 => (simp; omega)
            intro v' w' hown2 hgrow _
            have HF9 := Lib.hid ((HFR.out.alloc hsz (.cells #[.int .u8 (v j)] 5)).grown hgrow (HOW.out.alloc (.cells #[.int .u8 (v j)] 5)) (Nat.le_trans hsz (by simp)))
            have HO9 := Lib.hid (show OwB w' w.heap.size v' (5 :: (k : Int) :: codL d v (j + 1)) from by
              have h := OwB.snoc (l := (5 :: (k : Int) :: codL d v j)) hown2 rfl
              rw [codL, HCB.out]; exact h)
            clear hown2 hgrow
            go_wp2_with fail
            go_roundw
            case rel => exact ⟨j + 1, hlt, by go_num, HO9.out, HF9.out⟩
            case measure => exact hms.out
          · have HCB := Lib.hid (show codB d v j = v j + 128 from by unfold codB; rw [hd]; rfl)
            rw [hd] at p0
            clear hd
            go_wp2_with (at_builtin; refine wpList_append_own _ rfl _ _ 24 rfl w.heap.size 5 i0 (.int .u8 0) 1 1 Tryz.underlying24 hi0 hz0 hz1 hz2 rfl (by decide) _ _ _ rfl (HOW.out.alloc (.cells #[.int .u8 (v j + 128)] 5)) ⟨wr.heap.size, 0, none⟩ 1 1 [.int .u8 (v j + 128)] rfl rfl ?c1 ?c2 ?c3 ?c4 ?c5 ?_)
            case c1 => exact cells_one_at (by simp) _ _
            case c2 => simp [Value.oneCell']
            case c3 => have := HLN.out; first | decide | (unfold maxLen; omega)
            case c4 => have := HLN.out; first | decide | omega
            case c5 => (simp; omega)
            intro v' w' hown2 hgrow _
            have HF9 := Lib.hid ((HFR.out.alloc hsz (.cells #[.int .u8 (v j + 128)] 5)).grown hgrow (HOW.out.alloc (.cells #[.int .u8 (v j + 128)] 5)) (Nat.le_trans hsz (by simp)))
            have HO9 := Lib.hid (show OwB w' w.heap.size v' (5 :: (k : Int) :: codL d v (j + 1)) from by
              have h := OwB.snoc (l := (5 :: (k : Int) :: codL d v j)) hown2 rfl
              rw [codL, HCB.out]; exact h)
            clear hown2 hgrow
            go_wp2_with fail
            go_roundw
            case rel => exact ⟨j + 1, hlt, by go_num, HO9.out, HF9.out⟩
            case measure => exact hms.out
        · obtain rfl : j = k := by omega
          have c0 := HXJ.out.cell 0 (v := .int .i64 5) rfl
          have c1 := HXJ.out.cell 1 (v := .int .i64 0) rfl
          have c2 := HXJ.out.cell 2 (v := .slice (some ⟨b, off, none⟩) j c) rfl
          have c3 := HXJ.out.cell 3 (v := .int .i64 p) rfl
          have HLN := Lib.hid (show ((5 :: (j : Int) :: codL d v j)).length = j + 2 from by simp [codL_len])
          have e1 : p.tmod 256 = p % 256 := Int.tmod_eq_emod_of_nonneg (by omega)
          have e2 : p.tdiv 256 = p / 256 := Int.tdiv_eq_ediv_of_nonneg (by omega)
          have e3 : IntKind.i64.wrap (p % 256) = p % 256 := by rw [IntKind.wrap_i64]; omega
          have e4 : IntKind.i64.wrap (p / 256) = p / 256 := by rw [IntKind.wrap_i64]; omega
          have e5 : IntKind.u8.wrap (p % 256) = p % 256 := wrap_u8_le (by omega) (by omega)
          have e6 : IntKind.u8.wrap (p / 256) = p / 256 := wrap_u8_le (by omega) (by omega)
          have e7 : IntKind.u8.wrap p = p % 256 := IntKind.wrap_u8 p
          go_wp2_with (at_builtin; refine wpList_append_own _ rfl _ _ 24 rfl w.heap.size 5 i0 (.int .u8 0) 1 1 Tryz.underlying24 hi0 hz0 hz1 hz2 rfl (by decide) _ _ _ rfl (HOW.out.alloc (.cells #[.int .u8 (p % 256), .int .u8 (p / 256)] 5)) ⟨wr.heap.size, 0, none⟩ 2 2 [.int .u8 (p % 256), .int .u8 (p / 256)] rfl rfl ?c1 ?c2 ?c3 ?c4 ?c5 ?_)
          case c1 => exact cells_two_at rfl _ _ _
          case c2 => simp [Value.oneCell']
          case c3 => have := HLN.out; first | decide | (unfold maxLen; omega)
          case c4 => have := HLN.out; first | decide | omega
          case c5 => (simp; omega)
          intro v' w' hown2 hgrow _
          have HF9 := Lib.hid ((HFR.out.alloc hsz (.cells #[.int .u8 (p % 256), .int .u8 (p / 256)] 5)).grown hgrow (HOW.out.alloc (.cells #[.int .u8 (p % 256), .int .u8 (p / 256)] 5)) (Nat.le_trans hsz (by simp)))
          have HO9 := Lib.hid (show OwB w' w.heap.size v' (hdrB 5 j d v p) from OwB.snoc2 (l := (5 :: (j : Int) :: codL d v j)) hown2 rfl)
          clear hown2 hgrow
          go_wp2_with fail
          go_ret2
          exact ⟨⟨_, rfl, HO9.out⟩, HB.out.trans HF9.out.below⟩
end Go.Proofs.YtjdiilkljgljkaaGreatDoor
namespace Go.Proofs.YtjdiilkljgljkaaGreatDoor
set_option linter.unusedVariables false
set_option linter.unusedSimpArgs false
open Go.RowKit Wd


/-- one region in memory -/
structure Rg1 (w : World) (b o : Nat) (d : Bool) (v : Int) (q : Option Addr × Nat × Nat) : Prop where
  lt : b < w.heap.size
  c0 : w.cell? ⟨b, o, none⟩ = some (.bool d)
  c1 : w.cell? ⟨b, o + 1, none⟩ = some (.int .i64 v)
  c2 : w.cell? ⟨b, o + 2, none⟩ = some (.slice q.1 q.2.1 q.2.2)
theorem Rg1.below {w w' : World} {B b o : Nat} {d : Bool} {v : Int} {q : Option Addr × Nat × Nat} (h : Rg1 w b o d v q) (hb : Below B w w') (hB : w.heap.size ≤ B) : Rg1 w' b o d v q := by
  have hlt := h.lt
  exact ⟨Nat.lt_of_lt_of_le h.lt hb.size, (hb.cell (p := ⟨b, o, none⟩) (by show b < B; omega)).trans h.c0, (hb.cell (p := ⟨b, o + 1, none⟩) (by show b < B; omega)).trans h.c1, (hb.cell (p := ⟨b, o + 2, none⟩) (by show b < B; omega)).trans h.c2⟩
/-- one query in memory -/
structure Qu1 (w : World) (b o : Nat) (x y z : Int) : Prop where
  lt : b < w.heap.size
  c0 : w.cell? ⟨b, o, none⟩ = some (.int .i64 x)
  c1 : w.cell? ⟨b, o + 1, none⟩ = some (.int .i64 y)
  c2 : w.cell? ⟨b, o + 2, none⟩ = some (.int .u64 z)
theorem Qu1.below {w w' : World} {B b o : Nat} {x y z : Int} (h : Qu1 w b o x y z) (hb : Below B w w') (hB : b < B) : Qu1 w' b o x y z :=
  ⟨Nat.lt_of_lt_of_le h.lt hb.size, (hb.cell (p := ⟨b, o, none⟩) hB).trans h.c0, (hb.cell (p := ⟨b, o + 1, none⟩) hB).trans h.c1, (hb.cell (p := ⟨b, o + 2, none⟩) hB).trans h.c2⟩
/-- the numbers of points and of queries that an operation prescribes -/
def OpN (op p : Int) (np nq : Nat) : Prop := (op = 4 ∧ p = 0 ∧ np = 1 ∧ nq = 0) ∨ (op = 5 ∧ 1 ≤ p ∧ p ≤ 4096 ∧ np = 0 ∧ (nq : Int) = p)
/-- the bytes of a request with regions -/
def reqB (op : Int) (n : Nat) (d : Nat → Bool) (v : Nat → Int) (p : Int) (Q : Nat → Option Addr × Nat × Nat) (F G : Nat → Nat → Int) (np : Nat) (f g : Nat → Int) (nq : Nat) (qf qg qd : Nat → Int) : List Int :=
  hdrB op n d v p ++ rgsB Q F G n ++ ptsB f g np ++ qusB qf qg qd nq
theorem hdrB_short {op p : Int} {n : Nat} {d : Nat → Bool} {v : Nat → Int} (hn : n ≤ 64) : (hdrB op n d v p).length ≤ 68 := by
  have : (ptsN op p).length ≤ 2 := by unfold ptsN; split <;> simp
  simp [hdrB, codL_len]; omega
theorem ref17_FormatR (op p : Int) (np nq : Nat) (hop : OpN op p np nq) (A : Option Addr) (n c : Nat) (d : Nat → Bool) (v : Nat → Int) (Q : Nat → Option Addr × Nat × Nat) (ho : OkK n v) (hq : ∀ k, k < n → (Q k).2.1 = 0) (w : World) (hr : Rgs w A n c d v Q) :
    Calls Tryz.prog 43 #[.agg #[.int .i64 op, .int .i64 0, .slice A n c, .int .i64 p]] w fun e w' => (∃ v', e = .returned (.tuple #[v', .int .i64 0]) ∧ OwB w' w.heap.size v' (hdrB op n d v p)) ∧ Below w.heap.size w w' := by
  rcases hop with ⟨rfl, rfl, -, -⟩ | ⟨rfl, h1, h2, -, -⟩
  · exact ref17_Format4 A n c d v Q ho hq w hr
  · exact ref17_Format5 p h1 h2 A n c d v Q ho hq w hr
set_option maxHeartbeats 4000000 in
set_option maxRecDepth 100000 in
theorem ref18_CountsR (op p : Int) (np nq : Nat) (hop : OpN op p np nq) (A : Option Addr) (n c : Nat) (w : World) :
    Calls Tryz.prog 51 #[.agg #[.int .i64 op, .int .i64 0, .slice A n c, .int .i64 p]] w fun e w' => e = .returned (.tuple #[.int .i64 (np : Int), .int .i64 (nq : Int)]) ∧ Below w.heap.size w w' := by
  rcases hop with ⟨rfl, rfl, rfl, rfl⟩ | ⟨rfl, h1, h2, rfl, hq⟩
  · go_enter Tryz.func51, Tryz.ntmps51
    go_wp2_with fail
    go_ret2
    exact ⟨rfl, below_al below_rf⟩
  · subst hq
    clear h1 h2
    go_enter Tryz.func51, Tryz.ntmps51
    go_wp2_with fail
    go_quiet (fail)
    go_wp2_with fail
    go_ret2
    exact ⟨rfl, below_drewN (below_al below_rf)⟩
set_option maxHeartbeats 40000000 in
set_option maxRecDepth 100000 in
theorem ref18_EncodeR (op p : Int) (np nq : Nat) (hop : OpN op p np nq) (HA : Option Addr) (hc : Nat) (Qh : Nat → Option Addr × Nat × Nat) (A : Option Addr) (n c : Nat) (d : Nat → Bool) (v : Nat → Int) (Q : Nat → Option Addr × Nat × Nat) (F G : Nat → Nat → Int) (PA : Option Addr) (pc : Nat) (f g : Nat → Int) (QA : Option Addr) (qc : Nat) (qf qg qd : Nat → Int) (w : World)
    (hh : Rgs w HA n hc d v Qh) (hq : ∀ k, k < n → (Qh k).2.1 = 0) (hr : Rgs w A n c d v Q) (hp : RgP w n Q F G) (ho : OkR n v Q) (hpp : Pts w PA np pc f g) (hqq : Qus w QA nq qc qf qg qd) :
    Calls Tryz.prog 29 #[.agg #[.int .i64 op, .int .i64 0, .slice HA n hc, .int .i64 p, .slice A n c, .slice PA np pc, .slice QA nq qc]] w fun e w' => (∃ v', e = .returned (.tuple #[v', .int .i64 0]) ∧ OwB w' w.heap.size v' (reqB op n d v p Q F G np f g nq qf qg qd)) ∧ Below w.heap.size w w' := by
  have HOP := Lib.hid hop
  have HNP := Lib.hid (show np ≤ 1 ∧ nq ≤ 4096 from by rcases hop with ⟨_, _, h, h'⟩ | ⟨_, _, _, h, h'⟩ <;> omega)
  have HH := Lib.hid hh; have HQ := Lib.hid hq; have HR := Lib.hid hr; have HP := Lib.hid hp; have HO := Lib.hid ho; have HPP := Lib.hid hpp; have HQQ := Lib.hid hqq
  have hcp := hr.cap
  have hmx := hr.max
  have hcp2 := hh.cap
  have hmx2 := hh.max
  have hcp3 := hpp.cap
  have hmx3 := hpp.max
  have hcp4 := hqq.cap
  have hmx4 := hqq.max
  have h1 := ho.pos
  have h2 := ho.le
  clear hop hh hq hr hp ho hpp hqq
  unfold maxLen at hmx hmx2 hmx3 hmx4
  obtain ⟨b, off, rfl, hbl, hc_⟩ := HR.out.at_ (by omega)
  have HC := Lib.hid hc_; have HBL := Lib.hid hbl; clear hc_ hbl
  obtain ⟨hb_, hoff, rfl, hhl, hhc⟩ := HH.out.at_ (by omega)
  have HHC := Lib.hid hhc; have HHL := Lib.hid hhl; clear hhc hhl
  go_enter Tryz.func29, Tryz.ntmps29
  go_wp2_with fail
  have HX := Lib.hid (Bx.new w #[.int .i64 op, .int .i64 0, .slice (some ⟨hb_, hoff, none⟩) n hc, .int .i64 p, .slice (some ⟨b, off, none⟩) n c, .slice PA np pc, .slice QA nq qc] 32)
  have HB1 := Lib.hid (show Below w.heap.size w (w.alloc (.cells #[.int .i64 op, .int .i64 0, .slice (some ⟨hb_, hoff, none⟩) n hc, .int .i64 p, .slice (some ⟨b, off, none⟩) n c, .slice PA np pc, .slice QA nq qc] 32)) from below_al below_rf)
  generalize w.alloc (.cells #[.int .i64 op, .int .i64 0, .slice (some ⟨hb_, hoff, none⟩) n hc, .int .i64 p, .slice (some ⟨b, off, none⟩) n c, .slice PA np pc, .slice QA nq qc] 32) = w1 at *
  have c0 := HX.out.cell 0 (v := .int .i64 op) rfl; have c1 := HX.out.cell 1 (v := .int .i64 0) rfl; have c2 := HX.out.cell 2 (v := .slice (some ⟨hb_, hoff, none⟩) n hc) rfl; have c3 := HX.out.cell 3 (v := .int .i64 p) rfl
  go_wp2_with fail
  clear c0 c1 c2 c3
  refine (ref17_FormatR op p np nq HOP.out _ n hc d v Qh HO.out.toOkK HQ.out _ (HH.out.below HB1.out (Nat.le_refl _))).mono ?_
  rintro e w2 ⟨⟨v', rfl, ho2⟩, B⟩
  have HX2 := Lib.hid (HX.out.below B (Nat.le_refl _)); have HB12 := Lib.hid B; have HO2 := Lib.hid ho2; clear B ho2
  have c0 := HX2.out.cell 0 (v := .int .i64 op) rfl; have c1 := HX2.out.cell 1 (v := .int .i64 0) rfl; have c2 := HX2.out.cell 2 (v := .slice (some ⟨hb_, hoff, none⟩) n hc) rfl; have c3 := HX2.out.cell 3 (v := .int .i64 p) rfl
  go_wp2_with fail
  clear c0 c1 c2 c3
  refine (ref18_CountsR op p np nq HOP.out _ n hc _).mono ?_
  rintro e w3 ⟨rfl, B⟩
  have HX3 := Lib.hid (HX2.out.below B (Nat.le_refl _)); have HB13 := Lib.hid (HB12.out.trans (B.mono HB12.out.size)); have HO3 := Lib.hid (HO2.out.below B (Nat.le_refl _)); clear B HX2 HB12 HO2
  have c0 := HX3.out.cell 0 (v := .int .i64 op) rfl; have c1 := HX3.out.cell 1 (v := .int .i64 0) rfl; have c2 := HX3.out.cell 2 (v := .slice (some ⟨hb_, hoff, none⟩) n hc) rfl; have c3 := HX3.out.cell 3 (v := .int .i64 p) rfl; have c4 := HX3.out.cell 4 (v := .slice (some ⟨b, off, none⟩) n c) rfl; have c5 := HX3.out.cell 5 (v := .slice PA np pc) rfl; have c6 := HX3.out.cell 6 (v := .slice QA nq qc) rfl
  go_wp2_with fail
  clear c0 c1 c2 c3 c4 c5 c6
  go_loopw [8] (fun ir wr => ∃ k : Nat, k ≤ n ∧ ir = .int .i64 (k : Int) ∧ Below w3.heap.size w3 wr) (fun i _ => n - (intOf i).toNat)
  case atStart => exact ⟨0, by omega, rfl, below_rf⟩
  case round =>
    obtain ⟨k, hk, rfl, hb⟩ := hrel
    have HBR := Lib.hid hb; clear hb
    have HXR := Lib.hid (HX3.out.below HBR.out (Nat.le_refl _))
    have HB := Lib.hid (HB1.out.trans ((HB13.out.trans (HBR.out.mono HB13.out.size)).mono HB1.out.size))
    have c4 := HXR.out.cell 4 (v := .slice (some ⟨b, off, none⟩) n c) rfl
    by_cases hlt : k < n
    · have hms := Lib.hid (show n - (intOf (.int .i64 ((k : Int) + 1))).toNat < n - (intOf (.int .i64 (k : Int))).toNat from by simp [intOf]; omega)
      have FR := Lib.hid (show Rg1 wr b (off + k * 3) (d k) (v k) (Q k) from (Rg1.mk HBL.out (HC.out k hlt).1 (HC.out k hlt).2.1 (HC.out k hlt).2.2).below HB.out (Nat.le_refl _))
      have FH := Lib.hid (show Rg1 wr hb_ (hoff + k * 3) (d k) (v k) (Qh k) from (Rg1.mk HHL.out (HHC.out k hlt).1 (HHC.out k hlt).2.1 (HHC.out k hlt).2.2).below HB.out (Nat.le_refl _))
      go_wp2_with fail
      clear c4
      have HNE := Lib.hid (show (!((((Q k).2.1 : Nat) : Int) == szf (v k))) = false from by rw [HO.out.num k hlt]; simp)
      refine (wpIn_wide (n := 0)).1 ?_
      refine wpIn_region_any (by kernel_rfl) ?_
      change wpAnyIn _ _ _ _ _ _ _ _ _ (World.drew _)
      have RB5 := Lib.hid (below_drew0 wr)
      refine wpAnyIn_tail WideF.wide (fun a b => Below a.heap.size a b) (fun _ => below_rf) (fun _ _ _ h k => below_tr h k) [⟨0, 57, fun z_ _ => z_ = .pointer (some ⟨w.heap.size, 4, none⟩)⟩, ⟨1, 58, fun z_ _ => z_ = .slice (some ⟨b, off, none⟩) n c⟩, ⟨2, 59, fun z_ _ => z_ = .int .i64 (k : Int)⟩, ⟨3, 60, fun z_ _ => z_ = .pointer (some ⟨b, off + k * 3, none⟩)⟩, ⟨4, 61, fun z_ _ => z_ = .pointer (some ⟨b, off + k * 3 + 2, none⟩)⟩, ⟨5, 62, fun z_ _ => z_ = .slice (Q k).1 (Q k).2.1 (Q k).2.2⟩, ⟨6, 63, fun z_ _ => z_ = .int .i64 (((Q k).2.1 : Nat) : Int)⟩, ⟨7, 64, fun z_ _ => z_ = .pointer (some ⟨w.heap.size, 0, none⟩)⟩, ⟨8, 65, fun z_ _ => z_ = .pointer (some ⟨w.heap.size, 2, none⟩)⟩, ⟨9, 66, fun z_ _ => z_ = .slice (some ⟨hb_, hoff, none⟩) n hc⟩, ⟨10, 67, fun z_ _ => z_ = .int .i64 (k : Int)⟩, ⟨11, 68, fun z_ _ => z_ = .pointer (some ⟨hb_, hoff + k * 3, none⟩)⟩, ⟨12, 69, fun z_ _ => z_ = .pointer (some ⟨hb_, hoff + k * 3 + 1, none⟩)⟩, ⟨13, 70, fun z_ _ => z_ = .int .i64 (v k)⟩, ⟨14, 71, fun z_ _ => z_ = .int .i64 (szf (v k))⟩, ⟨15, 72, fun z_ _ => z_ = .bool false⟩] 16 (by kernel_rfl) ?_ ?_ ?_
      · refine ⟨?_, ?_, ?_, ?_, ?_, ?_, ?_, ?_, ?_, ?_, ?_, ?_, ?_, ?_, ?_, ?_, trivial⟩
        all_goals (intro x w w' hb h; first | exact h | (obtain ⟨b_, h1, h2⟩ := h; exact ⟨b_, h1, h2.below hb (Nat.le_refl _)⟩))
      · refine ⟨?_, ?_, ?_, ?_, ?_, ?_, ?_, ?_, ?_, ?_, ?_, ?_, ?_, ?_, ?_, ?_, trivial⟩
        · intro a wz K hb ht hd hK
          have hbw := Lib.hid (below_tr RB5.out hb); clear hb
          have hx1 := (ht 1 rfl).trans rfl
          have es1 : a.tmps.getD 1 undef = _ := getD_of hx1; clear hx1
          clear ht hd
          have HK := Lib.hid hK; clear hK
          refine wpOpP_step (by simp only [List.getElem?_toArray, List.getElem?_cons_succ, List.getElem?_cons_zero]; rfl) (fun K' hK' => ?_)
          have HK' := Lib.hid hK'; clear hK'
          go_simp
          exact HK'.out _ _ (HK.out _ _ below_rf rfl)
        · intro a wz K hb ht hd hK
          have hbw := Lib.hid (below_tr RB5.out hb); clear hb
          obtain ⟨x57, hx57, hp57⟩ := hd 0 _ rfl (by kernel_rfl)
          obtain rfl := hp57
          have es57 : a.tmps.getD 57 undef = _ := getD_of hx57; clear hx57
          clear ht hd
          have zc0 := (HXR.out.below hbw.out (Nat.le_refl _)).cell 4 (v := .slice (some ⟨b, off, none⟩) n c) rfl
          have HK := Lib.hid hK; clear hK
          refine wpOpP_step (by simp only [List.getElem?_toArray, List.getElem?_cons_succ, List.getElem?_cons_zero]; rfl) (fun K' hK' => ?_)
          have HK' := Lib.hid hK'; clear hK'
          go_simp
          exact HK'.out _ _ (HK.out _ _ below_rf rfl)
        · intro a wz K hb ht hd hK
          have hbw := Lib.hid (below_tr RB5.out hb); clear hb
          have hx8 := (ht 8 rfl).trans rfl
          have es8 : a.tmps.getD 8 undef = _ := getD_of hx8; clear hx8
          clear ht hd
          have HK := Lib.hid hK; clear hK
          refine wpOpP_step (by simp only [List.getElem?_toArray, List.getElem?_cons_succ, List.getElem?_cons_zero]; rfl) (fun K' hK' => ?_)
          have HK' := Lib.hid hK'; clear hK'
          go_simp
          exact HK'.out _ _ (HK.out _ _ below_rf rfl)
        · intro a wz K hb ht hd hK
          have hbw := Lib.hid (below_tr RB5.out hb); clear hb
          obtain ⟨x58, hx58, hp58⟩ := hd 1 _ rfl (by kernel_rfl)
          obtain rfl := hp58
          have es58 : a.tmps.getD 58 undef = _ := getD_of hx58; clear hx58
          obtain ⟨x59, hx59, hp59⟩ := hd 2 _ rfl (by kernel_rfl)
          obtain rfl := hp59
          have es59 : a.tmps.getD 59 undef = _ := getD_of hx59; clear hx59
          clear ht hd
          have HK := Lib.hid hK; clear hK
          refine wpOpP_step (by simp only [List.getElem?_toArray, List.getElem?_cons_succ, List.getElem?_cons_zero]; rfl) (fun K' hK' => ?_)
          have HK' := Lib.hid hK'; clear hK'
          go_simp
          exact HK'.out _ _ (HK.out _ _ below_rf rfl)
        · intro a wz K hb ht hd hK
          have hbw := Lib.hid (below_tr RB5.out hb); clear hb
          obtain ⟨x60, hx60, hp60⟩ := hd 3 _ rfl (by kernel_rfl)
          obtain rfl := hp60
          have es60 : a.tmps.getD 60 undef = _ := getD_of hx60; clear hx60
          clear ht hd
          have HK := Lib.hid hK; clear hK
          refine wpOpP_step (by simp only [List.getElem?_toArray, List.getElem?_cons_succ, List.getElem?_cons_zero]; rfl) (fun K' hK' => ?_)
          have HK' := Lib.hid hK'; clear hK'
          go_simp
          exact HK'.out _ _ (HK.out _ _ below_rf rfl)
        · intro a wz K hb ht hd hK
          have hbw := Lib.hid (below_tr RB5.out hb); clear hb
          obtain ⟨x61, hx61, hp61⟩ := hd 4 _ rfl (by kernel_rfl)
          obtain rfl := hp61
          have es61 : a.tmps.getD 61 undef = _ := getD_of hx61; clear hx61
          clear ht hd
          have zc0 := (FR.out.below hbw.out (Nat.le_refl _)).c2
          have HK := Lib.hid hK; clear hK
          refine wpOpP_step (by simp only [List.getElem?_toArray, List.getElem?_cons_succ, List.getElem?_cons_zero]; rfl) (fun K' hK' => ?_)
          have HK' := Lib.hid hK'; clear hK'
          go_simp
          exact HK'.out _ _ (HK.out _ _ below_rf rfl)
        · intro a wz K hb ht hd hK
          have hbw := Lib.hid (below_tr RB5.out hb); clear hb
          obtain ⟨x62, hx62, hp62⟩ := hd 5 _ rfl (by kernel_rfl)
          obtain rfl := hp62
          have es62 : a.tmps.getD 62 undef = _ := getD_of hx62; clear hx62
          clear ht hd
          have HK := Lib.hid hK; clear hK
          refine wpOpP_step (by simp only [List.getElem?_toArray, List.getElem?_cons_succ, List.getElem?_cons_zero]; rfl) (fun K' hK' => ?_)
          have HK' := Lib.hid hK'; clear hK'
          go_simp
          exact HK'.out _ _ (HK.out _ _ below_rf rfl)
        · intro a wz K hb ht hd hK
          have hbw := Lib.hid (below_tr RB5.out hb); clear hb
          have hx1 := (ht 1 rfl).trans rfl
          have es1 : a.tmps.getD 1 undef = _ := getD_of hx1; clear hx1
          clear ht hd
          have HK := Lib.hid hK; clear hK
          refine wpOpP_step (by simp only [List.getElem?_toArray, List.getElem?_cons_succ, List.getElem?_cons_zero]; rfl) (fun K' hK' => ?_)
          have HK' := Lib.hid hK'; clear hK'
          go_simp
          exact HK'.out _ _ (HK.out _ _ below_rf rfl)
        · intro a wz K hb ht hd hK
          have hbw := Lib.hid (below_tr RB5.out hb); clear hb
          obtain ⟨x64, hx64, hp64⟩ := hd 7 _ rfl (by kernel_rfl)
          obtain rfl := hp64
          have es64 : a.tmps.getD 64 undef = _ := getD_of hx64; clear hx64
          clear ht hd
          have HK := Lib.hid hK; clear hK
          refine wpOpP_step (by simp only [List.getElem?_toArray, List.getElem?_cons_succ, List.getElem?_cons_zero]; rfl) (fun K' hK' => ?_)
          have HK' := Lib.hid hK'; clear hK'
          go_simp
          exact HK'.out _ _ (HK.out _ _ below_rf rfl)
        · intro a wz K hb ht hd hK
          have hbw := Lib.hid (below_tr RB5.out hb); clear hb
          obtain ⟨x65, hx65, hp65⟩ := hd 8 _ rfl (by kernel_rfl)
          obtain rfl := hp65
          have es65 : a.tmps.getD 65 undef = _ := getD_of hx65; clear hx65
          clear ht hd
          have zc0 := (HXR.out.below hbw.out (Nat.le_refl _)).cell 2 (v := .slice (some ⟨hb_, hoff, none⟩) n hc) rfl
          have HK := Lib.hid hK; clear hK
          refine wpOpP_step (by simp only [List.getElem?_toArray, List.getElem?_cons_succ, List.getElem?_cons_zero]; rfl) (fun K' hK' => ?_)
          have HK' := Lib.hid hK'; clear hK'
          go_simp
          exact HK'.out _ _ (HK.out _ _ below_rf rfl)
        · intro a wz K hb ht hd hK
          have hbw := Lib.hid (below_tr RB5.out hb); clear hb
          have hx8 := (ht 8 rfl).trans rfl
          have es8 : a.tmps.getD 8 undef = _ := getD_of hx8; clear hx8
          clear ht hd
          have HK := Lib.hid hK; clear hK
          refine wpOpP_step (by simp only [List.getElem?_toArray, List.getElem?_cons_succ, List.getElem?_cons_zero]; rfl) (fun K' hK' => ?_)
          have HK' := Lib.hid hK'; clear hK'
          go_simp
          exact HK'.out _ _ (HK.out _ _ below_rf rfl)
        · intro a wz K hb ht hd hK
          have hbw := Lib.hid (below_tr RB5.out hb); clear hb
          obtain ⟨x66, hx66, hp66⟩ := hd 9 _ rfl (by kernel_rfl)
          obtain rfl := hp66
          have es66 : a.tmps.getD 66 undef = _ := getD_of hx66; clear hx66
          obtain ⟨x67, hx67, hp67⟩ := hd 10 _ rfl (by kernel_rfl)
          obtain rfl := hp67
          have es67 : a.tmps.getD 67 undef = _ := getD_of hx67; clear hx67
          clear ht hd
          have HK := Lib.hid hK; clear hK
          refine wpOpP_step (by simp only [List.getElem?_toArray, List.getElem?_cons_succ, List.getElem?_cons_zero]; rfl) (fun K' hK' => ?_)
          have HK' := Lib.hid hK'; clear hK'
          go_simp
          exact HK'.out _ _ (HK.out _ _ below_rf rfl)
        · intro a wz K hb ht hd hK
          have hbw := Lib.hid (below_tr RB5.out hb); clear hb
          obtain ⟨x68, hx68, hp68⟩ := hd 11 _ rfl (by kernel_rfl)
          obtain rfl := hp68
          have es68 : a.tmps.getD 68 undef = _ := getD_of hx68; clear hx68
          clear ht hd
          have HK := Lib.hid hK; clear hK
          refine wpOpP_step (by simp only [List.getElem?_toArray, List.getElem?_cons_succ, List.getElem?_cons_zero]; rfl) (fun K' hK' => ?_)
          have HK' := Lib.hid hK'; clear hK'
          go_simp
          exact HK'.out _ _ (HK.out _ _ below_rf rfl)
        · intro a wz K hb ht hd hK
          have hbw := Lib.hid (below_tr RB5.out hb); clear hb
          obtain ⟨x69, hx69, hp69⟩ := hd 12 _ rfl (by kernel_rfl)
          obtain rfl := hp69
          have es69 : a.tmps.getD 69 undef = _ := getD_of hx69; clear hx69
          clear ht hd
          have zc0 := (FH.out.below hbw.out (Nat.le_refl _)).c1
          have HK := Lib.hid hK; clear hK
          refine wpOpP_step (by simp only [List.getElem?_toArray, List.getElem?_cons_succ, List.getElem?_cons_zero]; rfl) (fun K' hK' => ?_)
          have HK' := Lib.hid hK'; clear hK'
          go_simp
          exact HK'.out _ _ (HK.out _ _ below_rf rfl)
        · intro a wz K hb ht hd hK
          have hbw := Lib.hid (below_tr RB5.out hb); clear hb
          obtain ⟨x70, hx70, hp70⟩ := hd 13 _ rfl (by kernel_rfl)
          obtain rfl := hp70
          have es70 : a.tmps.getD 70 undef = _ := getD_of hx70; clear hx70
          clear ht hd
          have HK := Lib.hid hK; clear hK
          refine wpOpP_step (by simp only [List.getElem?_toArray, List.getElem?_cons_succ, List.getElem?_cons_zero]; rfl) (fun K' hK' => ?_)
          have HK' := Lib.hid hK'; clear hK'
          go_simp
          refine (ref16_Size (v k) _).mono ?_
          rintro e w1 ⟨rfl, rfl⟩
          go_wp2_with fail
          exact HK'.out _ _ (HK.out _ _ below_rf rfl)
        · intro a wz K hb ht hd hK
          have hbw := Lib.hid (below_tr RB5.out hb); clear hb
          obtain ⟨x63, hx63, hp63⟩ := hd 6 _ rfl (by kernel_rfl)
          obtain rfl := hp63
          have es63 : a.tmps.getD 63 undef = _ := getD_of hx63; clear hx63
          obtain ⟨x71, hx71, hp71⟩ := hd 14 _ rfl (by kernel_rfl)
          obtain rfl := hp71
          have es71 : a.tmps.getD 71 undef = _ := getD_of hx71; clear hx71
          clear ht hd
          have HK := Lib.hid hK; clear hK
          refine wpOpP_step (by simp only [List.getElem?_toArray, List.getElem?_cons_succ, List.getElem?_cons_zero]; rfl) (fun K' hK' => ?_)
          have HK' := Lib.hid hK'; clear hK'
          go_simp
          exact HK'.out _ _ (HK.out _ _ below_rf (congrArg Value.bool HNE.out))
      intro w6 X hb hv
      simp only [List.foldl_cons, List.foldl_nil, Act.put, List.setIfInBounds_toArray, List.set_cons_zero, List.set_cons_succ, List.toList_toArray, List.drop_succ_cons, List.drop_zero]
      obtain ⟨hv0, hv1, hv2, hv3, hv4, hv5, hv6, hv7, hv8, hv9, hv10, hv11, hv12, hv13, hv14, hv15, -⟩ := hv
      have hV0 : (fun z_ _ => z_ = .pointer (some ⟨w.heap.size, 4, none⟩)) (X 57) w6 := hv0; clear hv0; have hv0 := hV0; clear hV0; generalize X 57 = X57 at *
      have hV1 : (fun z_ _ => z_ = .slice (some ⟨b, off, none⟩) n c) (X 58) w6 := hv1; clear hv1; have hv1 := hV1; clear hV1; generalize X 58 = X58 at *
      have hV2 : (fun z_ _ => z_ = .int .i64 (k : Int)) (X 59) w6 := hv2; clear hv2; have hv2 := hV2; clear hV2; generalize X 59 = X59 at *
      have hV3 : (fun z_ _ => z_ = .pointer (some ⟨b, off + k * 3, none⟩)) (X 60) w6 := hv3; clear hv3; have hv3 := hV3; clear hV3; generalize X 60 = X60 at *
      have hV4 : (fun z_ _ => z_ = .pointer (some ⟨b, off + k * 3 + 2, none⟩)) (X 61) w6 := hv4; clear hv4; have hv4 := hV4; clear hV4; generalize X 61 = X61 at *
      have hV5 : (fun z_ _ => z_ = .slice (Q k).1 (Q k).2.1 (Q k).2.2) (X 62) w6 := hv5; clear hv5; have hv5 := hV5; clear hV5; generalize X 62 = X62 at *
      have hV6 : (fun z_ _ => z_ = .int .i64 (((Q k).2.1 : Nat) : Int)) (X 63) w6 := hv6; clear hv6; have hv6 := hV6; clear hV6; generalize X 63 = X63 at *
      have hV7 : (fun z_ _ => z_ = .pointer (some ⟨w.heap.size, 0, none⟩)) (X 64) w6 := hv7; clear hv7; have hv7 := hV7; clear hV7; generalize X 64 = X64 at *
      have hV8 : (fun z_ _ => z_ = .pointer (some ⟨w.heap.size, 2, none⟩)) (X 65) w6 := hv8; clear hv8; have hv8 := hV8; clear hV8; generalize X 65 = X65 at *
      have hV9 : (fun z_ _ => z_ = .slice (some ⟨hb_, hoff, none⟩) n hc) (X 66) w6 := hv9; clear hv9; have hv9 := hV9; clear hV9; generalize X 66 = X66 at *
      have hV10 : (fun z_ _ => z_ = .int .i64 (k : Int)) (X 67) w6 := hv10; clear hv10; have hv10 := hV10; clear hV10; generalize X 67 = X67 at *
      have hV11 : (fun z_ _ => z_ = .pointer (some ⟨hb_, hoff + k * 3, none⟩)) (X 68) w6 := hv11; clear hv11; have hv11 := hV11; clear hV11; generalize X 68 = X68 at *
      have hV12 : (fun z_ _ => z_ = .pointer (some ⟨hb_, hoff + k * 3 + 1, none⟩)) (X 69) w6 := hv12; clear hv12; have hv12 := hV12; clear hV12; generalize X 69 = X69 at *
      have hV13 : (fun z_ _ => z_ = .int .i64 (v k)) (X 70) w6 := hv13; clear hv13; have hv13 := hV13; clear hV13; generalize X 70 = X70 at *
      have hV14 : (fun z_ _ => z_ = .int .i64 (szf (v k))) (X 71) w6 := hv14; clear hv14; have hv14 := hV14; clear hV14; generalize X 71 = X71 at *
      have hV15 : (fun z_ _ => z_ = .bool false) (X 72) w6 := hv15; clear hv15; have hv15 := hV15; clear hV15; generalize X 72 = X72 at *
      obtain rfl := hv0
      obtain rfl := hv1
      obtain rfl := hv2
      obtain rfl := hv3
      obtain rfl := hv4
      obtain rfl := hv5
      obtain rfl := hv6
      obtain rfl := hv7
      obtain rfl := hv8
      obtain rfl := hv9
      obtain rfl := hv10
      obtain rfl := hv11
      obtain rfl := hv12
      obtain rfl := hv13
      obtain rfl := hv14
      obtain rfl := hv15
      have RC := Lib.hid (below_tr RB5.out hb); clear hb
      have FX_6 := Lib.hid (HXR.out.below RC.out (Nat.le_refl _))
      have FR_6 := Lib.hid (FR.out.below RC.out (Nat.le_refl _))
      have FH_6 := Lib.hid (FH.out.below RC.out (Nat.le_refl _))
      have HB6 := Lib.hid (HBR.out.trans (RC.out.mono HBR.out.size))
      clear HBR HXR FR FH RB5
      refine wpListIn_nil ?_
      go_wp2_with fail
      go_roundw
      case rel => exact ⟨k + 1, hlt, by go_num, HB6.out⟩
      case measure => exact hms.out
    · obtain rfl : k = n := by omega
      go_wp2_with fail
      clear c4
      have HO4 := Lib.hid (HO3.out.below HBR.out (Nat.le_refl _))
      have HB14 := Lib.hid (HB13.out.trans (HBR.out.mono HB13.out.size))
      clear HO3 HB13 HX3 HBR HB
      generalize wr = w4 at *
      go_loopw [4, 9] (fun br ir wr => ∃ m : Nat, m ≤ k ∧ ir = .int .i64 (m : Int) ∧ OwB wr w1.heap.size br (hdrB op k d v p ++ rgsB Q F G m) ∧ Fr w1.heap.size none w4 wr) (fun _ i _ => k - (intOf i).toNat)
      case atStart => exact ⟨0, by omega, rfl, by simpa [rgsB] using HO4.out, Fr.refl _ _ _⟩
      case round =>
        obtain ⟨m, hm, rfl, hown, hfr⟩ := hrel
        have HOW := Lib.hid hown; have HFR := Lib.hid hfr; clear hown hfr
        have HXR2 := Lib.hid (HFR.out.keep _ _ _ (by decide) (by simp) HXR.out)
        have HBW := Lib.hid (HB14.out.trans HFR.out.below)
        have HB := Lib.hid (HB1.out.trans (HBW.out.mono HB1.out.size))
        have c4 := HXR2.out.cell 4 (v := .slice (some ⟨b, off, none⟩) k c) rfl
        by_cases hlt : m < k
        · have hms := Lib.hid (show k - (intOf (.int .i64 ((m : Int) + 1))).toNat < k - (intOf (.int .i64 (m : Int))).toNat from by simp [intOf]; omega)
          have FR := Lib.hid (show Rg1 wr b (off + m * 3) (d m) (v m) (Q m) from (Rg1.mk HBL.out (HC.out m hlt).1 (HC.out m hlt).2.1 (HC.out m hlt).2.2).below HB.out (Nat.le_refl _))
          have FH := Lib.hid (show Rg1 wr hb_ (hoff + m * 3) (d m) (v m) (Qh m) from (Rg1.mk HHL.out (HHC.out m hlt).1 (HHC.out m hlt).2.1 (HHC.out m hlt).2.2).below HB.out (Nat.le_refl _))
          have FY := Lib.hid (Below.refl wr.heap.size wr)
          go_wp2_with fail
          clear c4
          refine (wpIn_wide (n := 0)).1 ?_
          refine wpIn_region_any (by kernel_rfl) ?_
          change wpAnyIn _ _ _ _ _ _ _ _ _ (World.drew _)
          have RB5 := Lib.hid (below_drew0 wr)
          refine wpAnyIn_tail WideF.wide (fun a b => Below a.heap.size a b) (fun _ => below_rf) (fun _ _ _ h k => below_tr h k) [⟨0, 80, fun z_ _ => z_ = .pointer (some ⟨w.heap.size, 4, none⟩)⟩, ⟨1, 81, fun z_ _ => z_ = .slice (some ⟨b, off, none⟩) k c⟩, ⟨2, 82, fun z_ _ => z_ = .int .i64 (m : Int)⟩, ⟨3, 83, fun z_ _ => z_ = .pointer (some ⟨b, off + m * 3, none⟩)⟩, ⟨4, 84, fun z_ _ => z_ = .pointer (some ⟨b, off + m * 3, none⟩)⟩, ⟨5, 85, fun z_ _ => z_ = .bool (d m)⟩, ⟨6, 86, fun z_ _ => z_ = .pointer (some ⟨w.heap.size, 0, none⟩)⟩, ⟨7, 87, fun z_ _ => z_ = .pointer (some ⟨w.heap.size, 2, none⟩)⟩, ⟨8, 88, fun z_ _ => z_ = .slice (some ⟨hb_, hoff, none⟩) k hc⟩, ⟨9, 89, fun z_ _ => z_ = .int .i64 (m : Int)⟩, ⟨10, 90, fun z_ _ => z_ = .pointer (some ⟨hb_, hoff + m * 3, none⟩)⟩, ⟨11, 91, fun z_ _ => z_ = .pointer (some ⟨hb_, hoff + m * 3, none⟩)⟩, ⟨12, 92, fun z_ _ => z_ = .bool (d m)⟩, ⟨13, 93, fun z_ _ => z_ = .bool false⟩, ⟨14, 94, fun z_ _ => z_ = .bool false⟩, ⟨15, 95, fun z_ _ => z_ = .pointer (some ⟨w.heap.size, 4, none⟩)⟩, ⟨16, 96, fun z_ _ => z_ = .slice (some ⟨b, off, none⟩) k c⟩, ⟨17, 97, fun z_ _ => z_ = .int .i64 (m : Int)⟩, ⟨18, 98, fun z_ _ => z_ = .pointer (some ⟨b, off + m * 3, none⟩)⟩, ⟨19, 99, fun z_ _ => z_ = .pointer (some ⟨b, off + m * 3 + 1, none⟩)⟩, ⟨20, 100, fun z_ _ => z_ = .int .i64 (v m)⟩, ⟨21, 101, fun z_ _ => z_ = .pointer (some ⟨w.heap.size, 0, none⟩)⟩, ⟨22, 102, fun z_ _ => z_ = .pointer (some ⟨w.heap.size, 2, none⟩)⟩, ⟨23, 103, fun z_ _ => z_ = .slice (some ⟨hb_, hoff, none⟩) k hc⟩, ⟨24, 104, fun z_ _ => z_ = .int .i64 (m : Int)⟩, ⟨25, 105, fun z_ _ => z_ = .pointer (some ⟨hb_, hoff + m * 3, none⟩)⟩, ⟨26, 106, fun z_ _ => z_ = .pointer (some ⟨hb_, hoff + m * 3 + 1, none⟩)⟩, ⟨27, 107, fun z_ _ => z_ = .int .i64 (v m)⟩, ⟨28, 108, fun z_ _ => z_ = .bool false⟩, ⟨29, 109, fun z_ _ => z_ = .bool false⟩] 30 (by kernel_rfl) ?_ ?_ ?_
          · refine ⟨?_, ?_, ?_, ?_, ?_, ?_, ?_, ?_, ?_, ?_, ?_, ?_, ?_, ?_, ?_, ?_, ?_, ?_, ?_, ?_, ?_, ?_, ?_, ?_, ?_, ?_, ?_, ?_, ?_, ?_, trivial⟩
            all_goals (intro x w w' hb h; first | exact h | (obtain ⟨b_, h1, h2⟩ := h; exact ⟨b_, h1, h2.below hb (Nat.le_refl _)⟩))
          · refine ⟨?_, ?_, ?_, ?_, ?_, ?_, ?_, ?_, ?_, ?_, ?_, ?_, ?_, ?_, ?_, ?_, ?_, ?_, ?_, ?_, ?_, ?_, ?_, ?_, ?_, ?_, ?_, ?_, ?_, ?_, trivial⟩
            · intro a wz K hb ht hd hK
              have hbw := Lib.hid (below_tr RB5.out hb); clear hb
              have hx1 := (ht 1 rfl).trans rfl
              have es1 : a.tmps.getD 1 undef = _ := getD_of hx1; clear hx1
              clear ht hd
              have HK := Lib.hid hK; clear hK
              refine wpOpP_step (by simp only [List.getElem?_toArray, List.getElem?_cons_succ, List.getElem?_cons_zero]; rfl) (fun K' hK' => ?_)
              have HK' := Lib.hid hK'; clear hK'
              go_simp
              exact HK'.out _ _ (HK.out _ _ below_rf rfl)
            · intro a wz K hb ht hd hK
              have hbw := Lib.hid (below_tr RB5.out hb); clear hb
              obtain ⟨x80, hx80, hp80⟩ := hd 0 _ rfl (by kernel_rfl)
              obtain rfl := hp80
              have es80 : a.tmps.getD 80 undef = _ := getD_of hx80; clear hx80
              clear ht hd
              have zc0 := (HXR2.out.below hbw.out (Nat.le_refl _)).cell 4 (v := .slice (some ⟨b, off, none⟩) k c) rfl
              have HK := Lib.hid hK; clear hK
              refine wpOpP_step (by simp only [List.getElem?_toArray, List.getElem?_cons_succ, List.getElem?_cons_zero]; rfl) (fun K' hK' => ?_)
              have HK' := Lib.hid hK'; clear hK'
              go_simp
              exact HK'.out _ _ (HK.out _ _ below_rf rfl)
            · intro a wz K hb ht hd hK
              have hbw := Lib.hid (below_tr RB5.out hb); clear hb
              have hx9 := (ht 9 rfl).trans rfl
              have es9 : a.tmps.getD 9 undef = _ := getD_of hx9; clear hx9
              clear ht hd
              have HK := Lib.hid hK; clear hK
              refine wpOpP_step (by simp only [List.getElem?_toArray, List.getElem?_cons_succ, List.getElem?_cons_zero]; rfl) (fun K' hK' => ?_)
              have HK' := Lib.hid hK'; clear hK'
              go_simp
              exact HK'.out _ _ (HK.out _ _ below_rf rfl)
            · intro a wz K hb ht hd hK
              have hbw := Lib.hid (below_tr RB5.out hb); clear hb
              obtain ⟨x81, hx81, hp81⟩ := hd 1 _ rfl (by kernel_rfl)
              obtain rfl := hp81
              have es81 : a.tmps.getD 81 undef = _ := getD_of hx81; clear hx81
              obtain ⟨x82, hx82, hp82⟩ := hd 2 _ rfl (by kernel_rfl)
              obtain rfl := hp82
              have es82 : a.tmps.getD 82 undef = _ := getD_of hx82; clear hx82
              clear ht hd
              have HK := Lib.hid hK; clear hK
              refine wpOpP_step (by simp only [List.getElem?_toArray, List.getElem?_cons_succ, List.getElem?_cons_zero]; rfl) (fun K' hK' => ?_)
              have HK' := Lib.hid hK'; clear hK'
              go_simp
              exact HK'.out _ _ (HK.out _ _ below_rf rfl)
            · intro a wz K hb ht hd hK
              have hbw := Lib.hid (below_tr RB5.out hb); clear hb
              obtain ⟨x83, hx83, hp83⟩ := hd 3 _ rfl (by kernel_rfl)
              obtain rfl := hp83
              have es83 : a.tmps.getD 83 undef = _ := getD_of hx83; clear hx83
              clear ht hd
              have HK := Lib.hid hK; clear hK
              refine wpOpP_step (by simp only [List.getElem?_toArray, List.getElem?_cons_succ, List.getElem?_cons_zero]; rfl) (fun K' hK' => ?_)
              have HK' := Lib.hid hK'; clear hK'
              go_simp
              exact HK'.out _ _ (HK.out _ _ below_rf rfl)
            · intro a wz K hb ht hd hK
              have hbw := Lib.hid (below_tr RB5.out hb); clear hb
              obtain ⟨x84, hx84, hp84⟩ := hd 4 _ rfl (by kernel_rfl)
              obtain rfl := hp84
              have es84 : a.tmps.getD 84 undef = _ := getD_of hx84; clear hx84
              clear ht hd
              have zc0 := (FR.out.below hbw.out (Nat.le_refl _)).c0
              have HK := Lib.hid hK; clear hK
              refine wpOpP_step (by simp only [List.getElem?_toArray, List.getElem?_cons_succ, List.getElem?_cons_zero]; rfl) (fun K' hK' => ?_)
              have HK' := Lib.hid hK'; clear hK'
              go_simp
              exact HK'.out _ _ (HK.out _ _ below_rf rfl)
            · intro a wz K hb ht hd hK
              have hbw := Lib.hid (below_tr RB5.out hb); clear hb
              have hx1 := (ht 1 rfl).trans rfl
              have es1 : a.tmps.getD 1 undef = _ := getD_of hx1; clear hx1
              clear ht hd
              have HK := Lib.hid hK; clear hK
              refine wpOpP_step (by simp only [List.getElem?_toArray, List.getElem?_cons_succ, List.getElem?_cons_zero]; rfl) (fun K' hK' => ?_)
              have HK' := Lib.hid hK'; clear hK'
              go_simp
              exact HK'.out _ _ (HK.out _ _ below_rf rfl)
            · intro a wz K hb ht hd hK
              have hbw := Lib.hid (below_tr RB5.out hb); clear hb
              obtain ⟨x86, hx86, hp86⟩ := hd 6 _ rfl (by kernel_rfl)
              obtain rfl := hp86
              have es86 : a.tmps.getD 86 undef = _ := getD_of hx86; clear hx86
              clear ht hd
              have HK := Lib.hid hK; clear hK
              refine wpOpP_step (by simp only [List.getElem?_toArray, List.getElem?_cons_succ, List.getElem?_cons_zero]; rfl) (fun K' hK' => ?_)
              have HK' := Lib.hid hK'; clear hK'
              go_simp
              exact HK'.out _ _ (HK.out _ _ below_rf rfl)
            · intro a wz K hb ht hd hK
              have hbw := Lib.hid (below_tr RB5.out hb); clear hb
              obtain ⟨x87, hx87, hp87⟩ := hd 7 _ rfl (by kernel_rfl)
              obtain rfl := hp87
              have es87 : a.tmps.getD 87 undef = _ := getD_of hx87; clear hx87
              clear ht hd
              have zc0 := (HXR2.out.below hbw.out (Nat.le_refl _)).cell 2 (v := .slice (some ⟨hb_, hoff, none⟩) k hc) rfl
              have HK := Lib.hid hK; clear hK
              refine wpOpP_step (by simp only [List.getElem?_toArray, List.getElem?_cons_succ, List.getElem?_cons_zero]; rfl) (fun K' hK' => ?_)
              have HK' := Lib.hid hK'; clear hK'
              go_simp
              exact HK'.out _ _ (HK.out _ _ below_rf rfl)
            · intro a wz K hb ht hd hK
              have hbw := Lib.hid (below_tr RB5.out hb); clear hb
              have hx9 := (ht 9 rfl).trans rfl
              have es9 : a.tmps.getD 9 undef = _ := getD_of hx9; clear hx9
              clear ht hd
              have HK := Lib.hid hK; clear hK
              refine wpOpP_step (by simp only [List.getElem?_toArray, List.getElem?_cons_succ, List.getElem?_cons_zero]; rfl) (fun K' hK' => ?_)
              have HK' := Lib.hid hK'; clear hK'
              go_simp
              exact HK'.out _ _ (HK.out _ _ below_rf rfl)
            · intro a wz K hb ht hd hK
              have hbw := Lib.hid (below_tr RB5.out hb); clear hb
              obtain ⟨x88, hx88, hp88⟩ := hd 8 _ rfl (by kernel_rfl)
              obtain rfl := hp88
              have es88 : a.tmps.getD 88 undef = _ := getD_of hx88; clear hx88
              obtain ⟨x89, hx89, hp89⟩ := hd 9 _ rfl (by kernel_rfl)
              obtain rfl := hp89
              have es89 : a.tmps.getD 89 undef = _ := getD_of hx89; clear hx89
              clear ht hd
              have HK := Lib.hid hK; clear hK
              refine wpOpP_step (by simp only [List.getElem?_toArray, List.getElem?_cons_succ, List.getElem?_cons_zero]; rfl) (fun K' hK' => ?_)
              have HK' := Lib.hid hK'; clear hK'
              go_simp
              exact HK'.out _ _ (HK.out _ _ below_rf rfl)
            · intro a wz K hb ht hd hK
              have hbw := Lib.hid (below_tr RB5.out hb); clear hb
              obtain ⟨x90, hx90, hp90⟩ := hd 10 _ rfl (by kernel_rfl)
              obtain rfl := hp90
              have es90 : a.tmps.getD 90 undef = _ := getD_of hx90; clear hx90
              clear ht hd
              have HK := Lib.hid hK; clear hK
              refine wpOpP_step (by simp only [List.getElem?_toArray, List.getElem?_cons_succ, List.getElem?_cons_zero]; rfl) (fun K' hK' => ?_)
              have HK' := Lib.hid hK'; clear hK'
              go_simp
              exact HK'.out _ _ (HK.out _ _ below_rf rfl)
            · intro a wz K hb ht hd hK
              have hbw := Lib.hid (below_tr RB5.out hb); clear hb
              obtain ⟨x91, hx91, hp91⟩ := hd 11 _ rfl (by kernel_rfl)
              obtain rfl := hp91
              have es91 : a.tmps.getD 91 undef = _ := getD_of hx91; clear hx91
              clear ht hd
              have zc0 := (FH.out.below hbw.out (Nat.le_refl _)).c0
              have HK := Lib.hid hK; clear hK
              refine wpOpP_step (by simp only [List.getElem?_toArray, List.getElem?_cons_succ, List.getElem?_cons_zero]; rfl) (fun K' hK' => ?_)
              have HK' := Lib.hid hK'; clear hK'
              go_simp
              exact HK'.out _ _ (HK.out _ _ below_rf rfl)
            · intro a wz K hb ht hd hK
              have hbw := Lib.hid (below_tr RB5.out hb); clear hb
              obtain ⟨x85, hx85, hp85⟩ := hd 5 _ rfl (by kernel_rfl)
              obtain rfl := hp85
              have es85 : a.tmps.getD 85 undef = _ := getD_of hx85; clear hx85
              obtain ⟨x92, hx92, hp92⟩ := hd 12 _ rfl (by kernel_rfl)
              obtain rfl := hp92
              have es92 : a.tmps.getD 92 undef = _ := getD_of hx92; clear hx92
              clear ht hd
              have HK := Lib.hid hK; clear hK
              refine wpOpP_step (by simp only [List.getElem?_toArray, List.getElem?_cons_succ, List.getElem?_cons_zero]; rfl) (fun K' hK' => ?_)
              have HK' := Lib.hid hK'; clear hK'
              go_simp
              exact HK'.out _ _ (HK.out _ _ below_rf rfl)
            · intro a wz K hb ht hd hK
              have hbw := Lib.hid (below_tr RB5.out hb); clear hb
              obtain ⟨x93, hx93, hp93⟩ := hd 13 _ rfl (by kernel_rfl)
              obtain rfl := hp93
              have es93 : a.tmps.getD 93 undef = _ := getD_of hx93; clear hx93
              clear ht hd
              have HK := Lib.hid hK; clear hK
              refine wpOpP_step (by simp only [List.getElem?_toArray, List.getElem?_cons_succ, List.getElem?_cons_zero]; rfl) (fun K' hK' => ?_)
              have HK' := Lib.hid hK'; clear hK'
              go_simp
              exact HK'.out _ _ (HK.out _ _ below_rf rfl)
            · intro a wz K hb ht hd hK
              have hbw := Lib.hid (below_tr RB5.out hb); clear hb
              have hx1 := (ht 1 rfl).trans rfl
              have es1 : a.tmps.getD 1 undef = _ := getD_of hx1; clear hx1
              obtain ⟨x94, hx94, hp94⟩ := hd 14 _ rfl (by kernel_rfl)
              obtain rfl := hp94
              have es94 : a.tmps.getD 94 undef = _ := getD_of hx94; have gs94 : a.tmps[94]? = some _ := hx94; clear hx94
              clear ht hd
              have HK := Lib.hid hK; clear hK
              refine wpOpP_step (by simp only [List.getElem?_toArray, List.getElem?_cons_succ, List.getElem?_cons_zero]; rfl) (fun K' hK' => ?_)
              have HK' := Lib.hid hK'; clear hK'
              go_simp
              exact HK'.out _ _ (HK.out _ _ below_rf rfl)
            · intro a wz K hb ht hd hK
              have hbw := Lib.hid (below_tr RB5.out hb); clear hb
              obtain ⟨x95, hx95, hp95⟩ := hd 15 _ rfl (by kernel_rfl)
              obtain rfl := hp95
              have es95 : a.tmps.getD 95 undef = _ := getD_of hx95; clear hx95
              obtain ⟨x94, hx94, hp94⟩ := hd 14 _ rfl (by kernel_rfl)
              obtain rfl := hp94
              have es94 : a.tmps.getD 94 undef = _ := getD_of hx94; have gs94 : a.tmps[94]? = some _ := hx94; clear hx94
              clear ht hd
              have zc0 := (HXR2.out.below hbw.out (Nat.le_refl _)).cell 4 (v := .slice (some ⟨b, off, none⟩) k c) rfl
              have HK := Lib.hid hK; clear hK
              refine wpOpP_step (by simp only [List.getElem?_toArray, List.getElem?_cons_succ, List.getElem?_cons_zero]; rfl) (fun K' hK' => ?_)
              have HK' := Lib.hid hK'; clear hK'
              go_simp
              exact HK'.out _ _ (HK.out _ _ below_rf rfl)
            · intro a wz K hb ht hd hK
              have hbw := Lib.hid (below_tr RB5.out hb); clear hb
              have hx9 := (ht 9 rfl).trans rfl
              have es9 : a.tmps.getD 9 undef = _ := getD_of hx9; clear hx9
              obtain ⟨x94, hx94, hp94⟩ := hd 14 _ rfl (by kernel_rfl)
              obtain rfl := hp94
              have es94 : a.tmps.getD 94 undef = _ := getD_of hx94; have gs94 : a.tmps[94]? = some _ := hx94; clear hx94
              clear ht hd
              have HK := Lib.hid hK; clear hK
              refine wpOpP_step (by simp only [List.getElem?_toArray, List.getElem?_cons_succ, List.getElem?_cons_zero]; rfl) (fun K' hK' => ?_)
              have HK' := Lib.hid hK'; clear hK'
              go_simp
              exact HK'.out _ _ (HK.out _ _ below_rf rfl)
            · intro a wz K hb ht hd hK
              have hbw := Lib.hid (below_tr RB5.out hb); clear hb
              obtain ⟨x96, hx96, hp96⟩ := hd 16 _ rfl (by kernel_rfl)
              obtain rfl := hp96
              have es96 : a.tmps.getD 96 undef = _ := getD_of hx96; clear hx96
              obtain ⟨x97, hx97, hp97⟩ := hd 17 _ rfl (by kernel_rfl)
              obtain rfl := hp97
              have es97 : a.tmps.getD 97 undef = _ := getD_of hx97; clear hx97
              obtain ⟨x94, hx94, hp94⟩ := hd 14 _ rfl (by kernel_rfl)
              obtain rfl := hp94
              have es94 : a.tmps.getD 94 undef = _ := getD_of hx94; have gs94 : a.tmps[94]? = some _ := hx94; clear hx94
              clear ht hd
              have HK := Lib.hid hK; clear hK
              refine wpOpP_step (by simp only [List.getElem?_toArray, List.getElem?_cons_succ, List.getElem?_cons_zero]; rfl) (fun K' hK' => ?_)
              have HK' := Lib.hid hK'; clear hK'
              go_simp
              exact HK'.out _ _ (HK.out _ _ below_rf rfl)
            · intro a wz K hb ht hd hK
              have hbw := Lib.hid (below_tr RB5.out hb); clear hb
              obtain ⟨x98, hx98, hp98⟩ := hd 18 _ rfl (by kernel_rfl)
              obtain rfl := hp98
              have es98 : a.tmps.getD 98 undef = _ := getD_of hx98; clear hx98
              obtain ⟨x94, hx94, hp94⟩ := hd 14 _ rfl (by kernel_rfl)
              obtain rfl := hp94
              have es94 : a.tmps.getD 94 undef = _ := getD_of hx94; have gs94 : a.tmps[94]? = some _ := hx94; clear hx94
              clear ht hd
              have HK := Lib.hid hK; clear hK
              refine wpOpP_step (by simp only [List.getElem?_toArray, List.getElem?_cons_succ, List.getElem?_cons_zero]; rfl) (fun K' hK' => ?_)
              have HK' := Lib.hid hK'; clear hK'
              go_simp
              exact HK'.out _ _ (HK.out _ _ below_rf rfl)
            · intro a wz K hb ht hd hK
              have hbw := Lib.hid (below_tr RB5.out hb); clear hb
              obtain ⟨x99, hx99, hp99⟩ := hd 19 _ rfl (by kernel_rfl)
              obtain rfl := hp99
              have es99 : a.tmps.getD 99 undef = _ := getD_of hx99; clear hx99
              obtain ⟨x94, hx94, hp94⟩ := hd 14 _ rfl (by kernel_rfl)
              obtain rfl := hp94
              have es94 : a.tmps.getD 94 undef = _ := getD_of hx94; have gs94 : a.tmps[94]? = some _ := hx94; clear hx94
              clear ht hd
              have zc0 := (FR.out.below hbw.out (Nat.le_refl _)).c1
              have HK := Lib.hid hK; clear hK
              refine wpOpP_step (by simp only [List.getElem?_toArray, List.getElem?_cons_succ, List.getElem?_cons_zero]; rfl) (fun K' hK' => ?_)
              have HK' := Lib.hid hK'; clear hK'
              go_simp
              exact HK'.out _ _ (HK.out _ _ below_rf rfl)
            · intro a wz K hb ht hd hK
              have hbw := Lib.hid (below_tr RB5.out hb); clear hb
              have hx1 := (ht 1 rfl).trans rfl
              have es1 : a.tmps.getD 1 undef = _ := getD_of hx1; clear hx1
              obtain ⟨x94, hx94, hp94⟩ := hd 14 _ rfl (by kernel_rfl)
              obtain rfl := hp94
              have es94 : a.tmps.getD 94 undef = _ := getD_of hx94; have gs94 : a.tmps[94]? = some _ := hx94; clear hx94
              clear ht hd
              have HK := Lib.hid hK; clear hK
              refine wpOpP_step (by simp only [List.getElem?_toArray, List.getElem?_cons_succ, List.getElem?_cons_zero]; rfl) (fun K' hK' => ?_)
              have HK' := Lib.hid hK'; clear hK'
              go_simp
              exact HK'.out _ _ (HK.out _ _ below_rf rfl)
            · intro a wz K hb ht hd hK
              have hbw := Lib.hid (below_tr RB5.out hb); clear hb
              obtain ⟨x101, hx101, hp101⟩ := hd 21 _ rfl (by kernel_rfl)
              obtain rfl := hp101
              have es101 : a.tmps.getD 101 undef = _ := getD_of hx101; clear hx101
              obtain ⟨x94, hx94, hp94⟩ := hd 14 _ rfl (by kernel_rfl)
              obtain rfl := hp94
              have es94 : a.tmps.getD 94 undef = _ := getD_of hx94; have gs94 : a.tmps[94]? = some _ := hx94; clear hx94
              clear ht hd
              have HK := Lib.hid hK; clear hK
              refine wpOpP_step (by simp only [List.getElem?_toArray, List.getElem?_cons_succ, List.getElem?_cons_zero]; rfl) (fun K' hK' => ?_)
              have HK' := Lib.hid hK'; clear hK'
              go_simp
              exact HK'.out _ _ (HK.out _ _ below_rf rfl)
            · intro a wz K hb ht hd hK
              have hbw := Lib.hid (below_tr RB5.out hb); clear hb
              obtain ⟨x102, hx102, hp102⟩ := hd 22 _ rfl (by kernel_rfl)
              obtain rfl := hp102
              have es102 : a.tmps.getD 102 undef = _ := getD_of hx102; clear hx102
              obtain ⟨x94, hx94, hp94⟩ := hd 14 _ rfl (by kernel_rfl)
              obtain rfl := hp94
              have es94 : a.tmps.getD 94 undef = _ := getD_of hx94; have gs94 : a.tmps[94]? = some _ := hx94; clear hx94
              clear ht hd
              have zc0 := (HXR2.out.below hbw.out (Nat.le_refl _)).cell 2 (v := .slice (some ⟨hb_, hoff, none⟩) k hc) rfl
              have HK := Lib.hid hK; clear hK
              refine wpOpP_step (by simp only [List.getElem?_toArray, List.getElem?_cons_succ, List.getElem?_cons_zero]; rfl) (fun K' hK' => ?_)
              have HK' := Lib.hid hK'; clear hK'
              go_simp
              exact HK'.out _ _ (HK.out _ _ below_rf rfl)
            · intro a wz K hb ht hd hK
              have hbw := Lib.hid (below_tr RB5.out hb); clear hb
              have hx9 := (ht 9 rfl).trans rfl
              have es9 : a.tmps.getD 9 undef = _ := getD_of hx9; clear hx9
              obtain ⟨x94, hx94, hp94⟩ := hd 14 _ rfl (by kernel_rfl)
              obtain rfl := hp94
              have es94 : a.tmps.getD 94 undef = _ := getD_of hx94; have gs94 : a.tmps[94]? = some _ := hx94; clear hx94
              clear ht hd
              have HK := Lib.hid hK; clear hK
              refine wpOpP_step (by simp only [List.getElem?_toArray, List.getElem?_cons_succ, List.getElem?_cons_zero]; rfl) (fun K' hK' => ?_)
              have HK' := Lib.hid hK'; clear hK'
              go_simp
              exact HK'.out _ _ (HK.out _ _ below_rf rfl)
            · intro a wz K hb ht hd hK
              have hbw := Lib.hid (below_tr RB5.out hb); clear hb
              obtain ⟨x103, hx103, hp103⟩ := hd 23 _ rfl (by kernel_rfl)
              obtain rfl := hp103
              have es103 : a.tmps.getD 103 undef = _ := getD_of hx103; clear hx103
              obtain ⟨x104, hx104, hp104⟩ := hd 24 _ rfl (by kernel_rfl)
              obtain rfl := hp104
              have es104 : a.tmps.getD 104 undef = _ := getD_of hx104; clear hx104
              obtain ⟨x94, hx94, hp94⟩ := hd 14 _ rfl (by kernel_rfl)
              obtain rfl := hp94
              have es94 : a.tmps.getD 94 undef = _ := getD_of hx94; have gs94 : a.tmps[94]? = some _ := hx94; clear hx94
              clear ht hd
              have HK := Lib.hid hK; clear hK
              refine wpOpP_step (by simp only [List.getElem?_toArray, List.getElem?_cons_succ, List.getElem?_cons_zero]; rfl) (fun K' hK' => ?_)
              have HK' := Lib.hid hK'; clear hK'
              go_simp
              exact HK'.out _ _ (HK.out _ _ below_rf rfl)
            · intro a wz K hb ht hd hK
              have hbw := Lib.hid (below_tr RB5.out hb); clear hb
              obtain ⟨x105, hx105, hp105⟩ := hd 25 _ rfl (by kernel_rfl)
              obtain rfl := hp105
              have es105 : a.tmps.getD 105 undef = _ := getD_of hx105; clear hx105
              obtain ⟨x94, hx94, hp94⟩ := hd 14 _ rfl (by kernel_rfl)
              obtain rfl := hp94
              have es94 : a.tmps.getD 94 undef = _ := getD_of hx94; have gs94 : a.tmps[94]? = some _ := hx94; clear hx94
              clear ht hd
              have HK := Lib.hid hK; clear hK
              refine wpOpP_step (by simp only [List.getElem?_toArray, List.getElem?_cons_succ, List.getElem?_cons_zero]; rfl) (fun K' hK' => ?_)
              have HK' := Lib.hid hK'; clear hK'
              go_simp
              exact HK'.out _ _ (HK.out _ _ below_rf rfl)
            · intro a wz K hb ht hd hK
              have hbw := Lib.hid (below_tr RB5.out hb); clear hb
              obtain ⟨x106, hx106, hp106⟩ := hd 26 _ rfl (by kernel_rfl)
              obtain rfl := hp106
              have es106 : a.tmps.getD 106 undef = _ := getD_of hx106; clear hx106
              obtain ⟨x94, hx94, hp94⟩ := hd 14 _ rfl (by kernel_rfl)
              obtain rfl := hp94
              have es94 : a.tmps.getD 94 undef = _ := getD_of hx94; have gs94 : a.tmps[94]? = some _ := hx94; clear hx94
              clear ht hd
              have zc0 := (FH.out.below hbw.out (Nat.le_refl _)).c1
              have HK := Lib.hid hK; clear hK
              refine wpOpP_step (by simp only [List.getElem?_toArray, List.getElem?_cons_succ, List.getElem?_cons_zero]; rfl) (fun K' hK' => ?_)
              have HK' := Lib.hid hK'; clear hK'
              go_simp
              exact HK'.out _ _ (HK.out _ _ below_rf rfl)
            · intro a wz K hb ht hd hK
              have hbw := Lib.hid (below_tr RB5.out hb); clear hb
              obtain ⟨x100, hx100, hp100⟩ := hd 20 _ rfl (by kernel_rfl)
              obtain rfl := hp100
              have es100 : a.tmps.getD 100 undef = _ := getD_of hx100; clear hx100
              obtain ⟨x107, hx107, hp107⟩ := hd 27 _ rfl (by kernel_rfl)
              obtain rfl := hp107
              have es107 : a.tmps.getD 107 undef = _ := getD_of hx107; clear hx107
              obtain ⟨x94, hx94, hp94⟩ := hd 14 _ rfl (by kernel_rfl)
              obtain rfl := hp94
              have es94 : a.tmps.getD 94 undef = _ := getD_of hx94; have gs94 : a.tmps[94]? = some _ := hx94; clear hx94
              clear ht hd
              have HK := Lib.hid hK; clear hK
              refine wpOpP_step (by simp only [List.getElem?_toArray, List.getElem?_cons_succ, List.getElem?_cons_zero]; rfl) (fun K' hK' => ?_)
              have HK' := Lib.hid hK'; clear hK'
              go_simp
              exact HK'.out _ _ (HK.out _ _ below_rf rfl)
            · intro a wz K hb ht hd hK
              have hbw := Lib.hid (below_tr RB5.out hb); clear hb
              obtain ⟨x94, hx94, hp94⟩ := hd 14 _ rfl (by kernel_rfl)
              obtain rfl := hp94
              have es94 : a.tmps.getD 94 undef = _ := getD_of hx94; clear hx94
              obtain ⟨x108, hx108, hp108⟩ := hd 28 _ rfl (by kernel_rfl)
              obtain rfl := hp108
              have es108 : a.tmps.getD 108 undef = _ := getD_of hx108; clear hx108
              clear ht hd
              have HK := Lib.hid hK; clear hK
              refine wpOpP_step (by simp only [List.getElem?_toArray, List.getElem?_cons_succ, List.getElem?_cons_zero]; rfl) (fun K' hK' => ?_)
              have HK' := Lib.hid hK'; clear hK'
              go_simp
              exact HK'.out _ _ (HK.out _ _ below_rf rfl)
          intro w6 X hb hv
          simp only [List.foldl_cons, List.foldl_nil, Act.put, List.setIfInBounds_toArray, List.set_cons_zero, List.set_cons_succ, List.toList_toArray, List.drop_succ_cons, List.drop_zero]
          obtain ⟨hv0, hv1, hv2, hv3, hv4, hv5, hv6, hv7, hv8, hv9, hv10, hv11, hv12, hv13, hv14, hv15, hv16, hv17, hv18, hv19, hv20, hv21, hv22, hv23, hv24, hv25, hv26, hv27, hv28, hv29, -⟩ := hv
          have hV0 : (fun z_ _ => z_ = .pointer (some ⟨w.heap.size, 4, none⟩)) (X 80) w6 := hv0; clear hv0; have hv0 := hV0; clear hV0; generalize X 80 = X80 at *
          have hV1 : (fun z_ _ => z_ = .slice (some ⟨b, off, none⟩) k c) (X 81) w6 := hv1; clear hv1; have hv1 := hV1; clear hV1; generalize X 81 = X81 at *
          have hV2 : (fun z_ _ => z_ = .int .i64 (m : Int)) (X 82) w6 := hv2; clear hv2; have hv2 := hV2; clear hV2; generalize X 82 = X82 at *
          have hV3 : (fun z_ _ => z_ = .pointer (some ⟨b, off + m * 3, none⟩)) (X 83) w6 := hv3; clear hv3; have hv3 := hV3; clear hV3; generalize X 83 = X83 at *
          have hV4 : (fun z_ _ => z_ = .pointer (some ⟨b, off + m * 3, none⟩)) (X 84) w6 := hv4; clear hv4; have hv4 := hV4; clear hV4; generalize X 84 = X84 at *
          have hV5 : (fun z_ _ => z_ = .bool (d m)) (X 85) w6 := hv5; clear hv5; have hv5 := hV5; clear hV5; generalize X 85 = X85 at *
          have hV6 : (fun z_ _ => z_ = .pointer (some ⟨w.heap.size, 0, none⟩)) (X 86) w6 := hv6; clear hv6; have hv6 := hV6; clear hV6; generalize X 86 = X86 at *
          have hV7 : (fun z_ _ => z_ = .pointer (some ⟨w.heap.size, 2, none⟩)) (X 87) w6 := hv7; clear hv7; have hv7 := hV7; clear hV7; generalize X 87 = X87 at *
          have hV8 : (fun z_ _ => z_ = .slice (some ⟨hb_, hoff, none⟩) k hc) (X 88) w6 := hv8; clear hv8; have hv8 := hV8; clear hV8; generalize X 88 = X88 at *
          have hV9 : (fun z_ _ => z_ = .int .i64 (m : Int)) (X 89) w6 := hv9; clear hv9; have hv9 := hV9; clear hV9; generalize X 89 = X89 at *
          have hV10 : (fun z_ _ => z_ = .pointer (some ⟨hb_, hoff + m * 3, none⟩)) (X 90) w6 := hv10; clear hv10; have hv10 := hV10; clear hV10; generalize X 90 = X90 at *
          have hV11 : (fun z_ _ => z_ = .pointer (some ⟨hb_, hoff + m * 3, none⟩)) (X 91) w6 := hv11; clear hv11; have hv11 := hV11; clear hV11; generalize X 91 = X91 at *
          have hV12 : (fun z_ _ => z_ = .bool (d m)) (X 92) w6 := hv12; clear hv12; have hv12 := hV12; clear hV12; generalize X 92 = X92 at *
          have hV13 : (fun z_ _ => z_ = .bool false) (X 93) w6 := hv13; clear hv13; have hv13 := hV13; clear hV13; generalize X 93 = X93 at *
          have hV14 : (fun z_ _ => z_ = .bool false) (X 94) w6 := hv14; clear hv14; have hv14 := hV14; clear hV14; generalize X 94 = X94 at *
          have hV15 : (fun z_ _ => z_ = .pointer (some ⟨w.heap.size, 4, none⟩)) (X 95) w6 := hv15; clear hv15; have hv15 := hV15; clear hV15; generalize X 95 = X95 at *
          have hV16 : (fun z_ _ => z_ = .slice (some ⟨b, off, none⟩) k c) (X 96) w6 := hv16; clear hv16; have hv16 := hV16; clear hV16; generalize X 96 = X96 at *
          have hV17 : (fun z_ _ => z_ = .int .i64 (m : Int)) (X 97) w6 := hv17; clear hv17; have hv17 := hV17; clear hV17; generalize X 97 = X97 at *
          have hV18 : (fun z_ _ => z_ = .pointer (some ⟨b, off + m * 3, none⟩)) (X 98) w6 := hv18; clear hv18; have hv18 := hV18; clear hV18; generalize X 98 = X98 at *
          have hV19 : (fun z_ _ => z_ = .pointer (some ⟨b, off + m * 3 + 1, none⟩)) (X 99) w6 := hv19; clear hv19; have hv19 := hV19; clear hV19; generalize X 99 = X99 at *
          have hV20 : (fun z_ _ => z_ = .int .i64 (v m)) (X 100) w6 := hv20; clear hv20; have hv20 := hV20; clear hV20; generalize X 100 = X100 at *
          have hV21 : (fun z_ _ => z_ = .pointer (some ⟨w.heap.size, 0, none⟩)) (X 101) w6 := hv21; clear hv21; have hv21 := hV21; clear hV21; generalize X 101 = X101 at *
          have hV22 : (fun z_ _ => z_ = .pointer (some ⟨w.heap.size, 2, none⟩)) (X 102) w6 := hv22; clear hv22; have hv22 := hV22; clear hV22; generalize X 102 = X102 at *
          have hV23 : (fun z_ _ => z_ = .slice (some ⟨hb_, hoff, none⟩) k hc) (X 103) w6 := hv23; clear hv23; have hv23 := hV23; clear hV23; generalize X 103 = X103 at *
          have hV24 : (fun z_ _ => z_ = .int .i64 (m : Int)) (X 104) w6 := hv24; clear hv24; have hv24 := hV24; clear hV24; generalize X 104 = X104 at *
          have hV25 : (fun z_ _ => z_ = .pointer (some ⟨hb_, hoff + m * 3, none⟩)) (X 105) w6 := hv25; clear hv25; have hv25 := hV25; clear hV25; generalize X 105 = X105 at *
          have hV26 : (fun z_ _ => z_ = .pointer (some ⟨hb_, hoff + m * 3 + 1, none⟩)) (X 106) w6 := hv26; clear hv26; have hv26 := hV26; clear hV26; generalize X 106 = X106 at *
          have hV27 : (fun z_ _ => z_ = .int .i64 (v m)) (X 107) w6 := hv27; clear hv27; have hv27 := hV27; clear hV27; generalize X 107 = X107 at *
          have hV28 : (fun z_ _ => z_ = .bool false) (X 108) w6 := hv28; clear hv28; have hv28 := hV28; clear hV28; generalize X 108 = X108 at *
          have hV29 : (fun z_ _ => z_ = .bool false) (X 109) w6 := hv29; clear hv29; have hv29 := hV29; clear hV29; generalize X 109 = X109 at *
          obtain rfl := hv0
          obtain rfl := hv1
          obtain rfl := hv2
          obtain rfl := hv3
          obtain rfl := hv4
          obtain rfl := hv5
          obtain rfl := hv6
          obtain rfl := hv7
          obtain rfl := hv8
          obtain rfl := hv9
          obtain rfl := hv10
          obtain rfl := hv11
          obtain rfl := hv12
          obtain rfl := hv13
          obtain rfl := hv14
          obtain rfl := hv15
          obtain rfl := hv16
          obtain rfl := hv17
          obtain rfl := hv18
          obtain rfl := hv19
          obtain rfl := hv20
          obtain rfl := hv21
          obtain rfl := hv22
          obtain rfl := hv23
          obtain rfl := hv24
          obtain rfl := hv25
          obtain rfl := hv26
          obtain rfl := hv27
          obtain rfl := hv28
          obtain rfl := hv29
          have RC := Lib.hid (below_tr RB5.out hb); clear hb
          have FX_6 := Lib.hid (HXR2.out.below RC.out (Nat.le_refl _))
          have FR_6 := Lib.hid (FR.out.below RC.out (Nat.le_refl _))
          have FH_6 := Lib.hid (FH.out.below RC.out (Nat.le_refl _))
          have HB6 := Lib.hid (FY.out.trans (RC.out.mono FY.out.size))
          clear FY HXR2 FR FH RB5
          refine wpListIn_nil ?_
          go_wp2_with fail
          have HOX := Lib.hid (HOW.out.below HB6.out (Nat.le_refl _))
          have HFX := Lib.hid (HFR.out.trans (Fr.of_below HB6.out HBW.out.size))
          have HQN := Lib.hid (show (Q m).2.1 ≤ 10000 from by have := HO.out.num m hlt; have := szf_range (v m); omega)
          have HPM := Lib.hid ((HP.out.pts m hlt).below HB1.out (Nat.le_refl _))
          have hcpm := HPM.out.cap
          have hmxm := HPM.out.max
          unfold maxLen at hmxm
          clear HOW HFR HBW HB HB6 FX_6 FR_6 FH_6
          go_loopw [4, 10] (fun br ir wq => ∃ j : Nat, j ≤ (Q m).2.1 ∧ ir = .int .i64 (j : Int) ∧ OwB wq w1.heap.size br (hdrB op k d v p ++ rgsB Q F G m ++ ptsB (F m) (G m) j) ∧ Fr w1.heap.size none w4 wq) (fun _ i _ => (Q m).2.1 - (intOf i).toNat)
          case atStart => exact ⟨0, by omega, rfl, by simpa [ptsB] using HOX.out, HFX.out⟩
          case round =>
            clear HOX HFX
            obtain ⟨j, hj, rfl, hown, hfr⟩ := hrel
            have HOW := Lib.hid hown; have HFR := Lib.hid hfr; clear hown hfr
            have HXR2 := Lib.hid (HFR.out.keep _ _ _ (by decide) (by simp) HXR.out)
            have HBW := Lib.hid (HB14.out.trans HFR.out.below)
            have HB := Lib.hid (HB1.out.trans (HBW.out.mono HB1.out.size))
            have c4 := HXR2.out.cell 4 (v := .slice (some ⟨b, off, none⟩) k c) rfl
            have p2 : wr.cell? ⟨b, off + m * 3 + 2, none⟩ = some (.slice (Q m).1 (Q m).2.1 (Q m).2.2) := (HB.out.cell (p := ⟨b, off + m * 3 + 2, none⟩) HBL.out).trans (HC.out m hlt).2.2
            by_cases hjl : j < (Q m).2.1
            · have hms2 := Lib.hid (show (Q m).2.1 - (intOf (.int .i64 ((j : Int) + 1))).toNat < (Q m).2.1 - (intOf (.int .i64 (j : Int))).toNat from by simp [intOf]; omega)
              obtain ⟨bp, op_, hbp, hbl_, hcc⟩ := HPM.out.at_ (by omega)
              have p0 : wr.cell? ⟨bp, op_ + j * 2, none⟩ = some (.int .i64 (F m j)) := (HBW.out.cell (p := ⟨bp, op_ + j * 2, none⟩) hbl_).trans (hcc j hjl).1
              have p1 : wr.cell? ⟨bp, op_ + j * 2 + 1, none⟩ = some (.int .i64 (G m j)) := (HBW.out.cell (p := ⟨bp, op_ + j * 2 + 1, none⟩) hbl_).trans (hcc j hjl).2
              rw [hbp] at p2
              have HBP := Lib.hid hbp
              clear hbp hbl_ hcc
              go_wp2_with fail
              clear c4 p0 p1 p2
              refine (ref18_point w1.heap.size _ _ (F m j) (G m j) (by have h1_ := rgsB_short F G (v := v) (n := k) HO.out.num (k := m) (by omega) (by omega); have h2_ := hdrB_short (op := op) (p := p) (d := d) (v := v) (n := k) (by omega); have h3_ := HQN.out; rw [List.length_append, List.length_append, ptsB_len]; omega) _ HBW.out.size HOW.out).mono ?_
              rintro e w6 ⟨⟨v6, rfl, h6⟩, g6⟩
              have HO6 := Lib.hid (show OwB w6 w1.heap.size v6 (hdrB op k d v p ++ rgsB Q F G m ++ ptsB (F m) (G m) (j + 1)) from by rw [ptsB, ← List.append_assoc]; exact h6); have HF6 := Lib.hid (HFR.out.trans g6); clear h6 g6
              go_wp2_with fail
              go_roundw
              case rel => exact ⟨j + 1, hjl, by go_num, HO6.out, HF6.out⟩
              case measure => exact hms2.out
            · obtain rfl : j = (Q m).2.1 := by omega
              go_wp2_with fail
              clear c4 p2
              go_roundw
              case rel => exact ⟨m + 1, hlt, by go_num, by rw [rgsB, ← List.append_assoc]; exact HOW.out, HFR.out⟩
              case measure => exact hms.out
        · obtain rfl : m = k := by omega
          go_wp2_with fail
          clear c4
          have HOX := Lib.hid HOW.out; have HFX := Lib.hid HFR.out
          clear HOW HFR HXR2 HBW HB
          have HLS := Lib.hid (show (hdrB op m d v p ++ rgsB Q F G m).length ≤ 65604 from by have h1_ := rgsB_short F G (v := v) (n := m) HO.out.num (k := m) (by omega) (by omega); have h2_ := hdrB_short (op := op) (p := p) (d := d) (v := v) (n := m) (by omega); rw [List.length_append]; omega)
          have HP1 := Lib.hid (HPP.out.below HB1.out (Nat.le_refl _))
          have HQ1 := Lib.hid (HQQ.out.below HB1.out (Nat.le_refl _))
          go_loopw [4, 11] (fun br ir wr => ∃ j : Nat, j ≤ np ∧ ir = .int .i64 (j : Int) ∧ OwB wr w1.heap.size br (hdrB op m d v p ++ rgsB Q F G m ++ ptsB f g j) ∧ Fr w1.heap.size none w4 wr) (fun _ i _ => np - (intOf i).toNat)
          case atStart => exact ⟨0, by omega, rfl, by simpa [ptsB] using HOX.out, HFX.out⟩
          case round =>
            clear HOX HFX
            obtain ⟨j, hj, rfl, hown, hfr⟩ := hrel
            have HOW := Lib.hid hown; have HFR := Lib.hid hfr; clear hown hfr
            have HXR2 := Lib.hid (HFR.out.keep _ _ _ (by decide) (by simp) HXR.out)
            have HBW := Lib.hid (HB14.out.trans HFR.out.below)
            have c5 := HXR2.out.cell 5 (v := .slice PA np pc) rfl
            by_cases hjl : j < np
            · have hms2 := Lib.hid (show np - (intOf (.int .i64 ((j : Int) + 1))).toNat < np - (intOf (.int .i64 (j : Int))).toNat from by simp [intOf]; omega)
              obtain ⟨bp, op_, hbp, hbl_, hcc⟩ := HP1.out.at_ (by omega)
              have p0 : wr.cell? ⟨bp, op_ + j * 2, none⟩ = some (.int .i64 (f j)) := (HBW.out.cell (p := ⟨bp, op_ + j * 2, none⟩) hbl_).trans (hcc j hjl).1
              have p1 : wr.cell? ⟨bp, op_ + j * 2 + 1, none⟩ = some (.int .i64 (g j)) := (HBW.out.cell (p := ⟨bp, op_ + j * 2 + 1, none⟩) hbl_).trans (hcc j hjl).2
              rw [hbp] at c5
              have HBP := Lib.hid hbp
              clear hbp hbl_ hcc
              go_wp2_with fail
              clear c5 p0 p1
              refine (ref18_point w1.heap.size _ _ (f j) (g j) (by have := HLS.out; have := HNP.out.1; rw [List.length_append, ptsB_len]; omega) _ HBW.out.size HOW.out).mono ?_
              rintro e w6 ⟨⟨v6, rfl, h6⟩, g6⟩
              have HO6 := Lib.hid (show OwB w6 w1.heap.size v6 (hdrB op m d v p ++ rgsB Q F G m ++ ptsB f g (j + 1)) from by rw [ptsB, ← List.append_assoc]; exact h6); have HF6 := Lib.hid (HFR.out.trans g6); clear h6 g6
              go_wp2_with fail
              go_roundw
              case rel => exact ⟨j + 1, hjl, by go_num, HO6.out, HF6.out⟩
              case measure => exact hms2.out
            · obtain rfl : j = np := by omega
              go_wp2_with fail
              clear c5
              have HOX := Lib.hid HOW.out; have HFX := Lib.hid HFR.out
              clear HOW HFR HXR2 HBW
              go_loopw [4, 12] (fun br ir wr => ∃ i : Nat, i ≤ nq ∧ ir = .int .i64 (i : Int) ∧ OwB wr w1.heap.size br (hdrB op m d v p ++ rgsB Q F G m ++ ptsB f g j ++ qusB qf qg qd i) ∧ Fr w1.heap.size none w4 wr) (fun _ i _ => nq - (intOf i).toNat)
              case atStart => exact ⟨0, by omega, rfl, by simpa [qusB] using HOX.out, HFX.out⟩
              case round =>
                clear HOX HFX
                obtain ⟨i, hi, rfl, hown, hfr⟩ := hrel
                have HOW := Lib.hid hown; have HFR := Lib.hid hfr; clear hown hfr
                have HXR2 := Lib.hid (HFR.out.keep _ _ _ (by decide) (by simp) HXR.out)
                have HBW := Lib.hid (HB14.out.trans HFR.out.below)
                by_cases hil : i < nq
                · have hms3 := Lib.hid (show nq - (intOf (.int .i64 ((i : Int) + 1))).toNat < nq - (intOf (.int .i64 (i : Int))).toNat from by simp [intOf]; omega)
                  obtain ⟨bq, oq, hbq, hbl_, hcc⟩ := HQ1.out.at_ (by omega)
                  obtain rfl := hbq
                  have HIS := Lib.hid (HQ1.out.isi i hil)
                  have HLB := Lib.hid hbl_
                  have HCC := Lib.hid (show Qu1 w1 bq (oq + i * 3) (qf i) (qg i) (qd i) from ⟨hbl_, (hcc i hil).1, (hcc i hil).2.1, (hcc i hil).2.2⟩)
                  clear hbl_ hcc
                  have HLQ := Lib.hid (show (hdrB op m d v p ++ rgsB Q F G m ++ ptsB f g j ++ qusB qf qg qd i).length ≤ 200000 from by have := HLS.out; have := HNP.out; rw [List.length_append, List.length_append, ptsB_len, qusB_len]; omega)
                  go_wp2_with fail
                  have HQ2 := Lib.hid (show ∀ w', Bx w' w.heap.size #[.int .i64 op, .int .i64 0, .slice (some ⟨hb_, hoff, none⟩) m hc, .int .i64 p, .slice (some ⟨b, off, none⟩) m c, .slice PA j pc, .slice (some ⟨bq, oq, none⟩) nq qc] 32 → Below w1.heap.size w1 w' → w'.cell? ⟨w.heap.size, 6, none⟩ = some (.slice (some ⟨bq, oq, none⟩) nq qc) ∧ w'.cell? ⟨bq, oq + i * 3, none⟩ = some (.int .i64 (qf i)) ∧ w'.cell? ⟨bq, oq + i * 3 + 1, none⟩ = some (.int .i64 (qg i)) ∧ w'.cell? ⟨bq, oq + i * 3 + 2, none⟩ = some (.int .u64 (qd i)) from fun w' h h' => ⟨h.cell 6 rfl, (HCC.out.below h' HLB.out).c0, (HCC.out.below h' HLB.out).c1, (HCC.out.below h' HLB.out).c2⟩)
                  refine wp_region_held_drew (S := fun w' => w'.cell? ⟨w.heap.size, 6, none⟩ = some (.slice (some ⟨bq, oq, none⟩) nq qc) ∧ w'.cell? ⟨bq, oq + i * 3, none⟩ = some (.int .i64 (qf i)) ∧ w'.cell? ⟨bq, oq + i * 3 + 1, none⟩ = some (.int .i64 (qg i)) ∧ w'.cell? ⟨bq, oq + i * 3 + 2, none⟩ = some (.int .u64 (qd i))) (by kernel_rfl) (HQ2.out _ (bx_dr HXR2.out) HBW.out.drew) (fun hHeld => ?_)
                  refine wpAnyH_take (i := 0) (v := ?_) (by simp only [List.getElem?_toArray, List.getElem?_cons_succ, List.getElem?_cons_zero]; rfl) (by kernel_rfl) (by kernel_rfl) (by kernel_rfl) (by intro _ _ _ h; exact h) (Or.inl ⟨by rfl, ?_⟩) hHeld ?_
                  rotate_left 1
                  · intro w hSw; (try dsimp only at hSw); go_simp; try with_reducible rfl
                  try simp only [Act.put, List.setIfInBounds_toArray, List.set_cons_zero, List.set_cons_succ]
                  refine wpAnyH_take (i := 1) (v := ?_) (by simp only [List.getElem?_toArray, List.getElem?_cons_succ, List.getElem?_cons_zero]; rfl) (by kernel_rfl) (by kernel_rfl) (by kernel_rfl) (by intro _ _ _ h; exact h) (Or.inl ⟨by rfl, ?_⟩) hHeld ?_
                  rotate_left 1
                  · intro w hSw; (try dsimp only at hSw); go_simp; try with_reducible rfl
                  try simp only [Act.put, List.setIfInBounds_toArray, List.set_cons_zero, List.set_cons_succ]
                  refine wpAnyH_take (i := 2) (v := ?_) (by simp only [List.getElem?_toArray, List.getElem?_cons_succ, List.getElem?_cons_zero]; rfl) (by kernel_rfl) (by kernel_rfl) (by kernel_rfl) (by intro _ _ _ h; exact h) (Or.inl ⟨by rfl, ?_⟩) hHeld ?_
                  rotate_left 1
                  · intro w hSw; (try dsimp only at hSw); go_simp; try with_reducible rfl
                  try simp only [Act.put, List.setIfInBounds_toArray, List.set_cons_zero, List.set_cons_succ]
                  refine wpAnyH_take (i := 3) (v := ?_) (by simp only [List.getElem?_toArray, List.getElem?_cons_succ, List.getElem?_cons_zero]; rfl) (by kernel_rfl) (by kernel_rfl) (by kernel_rfl) (by intro _ _ _ h; exact h) (Or.inl ⟨by rfl, ?_⟩) hHeld ?_
                  rotate_left 1
                  · intro w hSw; (try dsimp only at hSw); go_simp; try with_reducible rfl
                  try simp only [Act.put, List.setIfInBounds_toArray, List.set_cons_zero, List.set_cons_succ]
                  refine wpAnyH_take (i := 4) (v := ?_) (by simp only [List.getElem?_toArray, List.getElem?_cons_succ, List.getElem?_cons_zero]; rfl) (by kernel_rfl) (by kernel_rfl) (by kernel_rfl) (by intro _ _ _ h; exact h) (Or.inl ⟨by rfl, ?_⟩) hHeld ?_
                  rotate_left 1
                  · intro w hSw; (try dsimp only at hSw); go_simp; try with_reducible rfl
                  try simp only [Act.put, List.setIfInBounds_toArray, List.set_cons_zero, List.set_cons_succ]
                  refine wpAnyH_take (i := 5) (v := ?_) (by simp only [List.getElem?_toArray, List.getElem?_cons_succ, List.getElem?_cons_zero]; rfl) (by kernel_rfl) (by kernel_rfl) (by kernel_rfl) (by intro _ _ _ h; exact h) (Or.inl ⟨by rfl, ?_⟩) hHeld ?_
                  rotate_left 1
                  · intro w hSw; (try dsimp only at hSw); go_simp; try with_reducible rfl
                  try simp only [Act.put, List.setIfInBounds_toArray, List.set_cons_zero, List.set_cons_succ]
                  refine wpAnyH_take (i := 6) (v := ?_) (by simp only [List.getElem?_toArray, List.getElem?_cons_succ, List.getElem?_cons_zero]; rfl) (by kernel_rfl) (by kernel_rfl) (by kernel_rfl) (by intro _ _ _ h; exact h) (Or.inl ⟨by rfl, ?_⟩) hHeld ?_
                  rotate_left 1
                  · intro w hSw; (try dsimp only at hSw); go_simp; try with_reducible rfl
                  try simp only [Act.put, List.setIfInBounds_toArray, List.set_cons_zero, List.set_cons_succ]
                  refine wpAnyH_take (i := 8) (v := ?_) (by simp only [List.getElem?_toArray, List.getElem?_cons_succ, List.getElem?_cons_zero]; rfl) (by kernel_rfl) (by kernel_rfl) (by kernel_rfl) (by intro _ _ _ h; exact h) (Or.inl ⟨by rfl, ?_⟩) hHeld ?_
                  rotate_left 1
                  · intro w hSw; (try dsimp only at hSw); go_simp; try with_reducible rfl
                  try simp only [Act.put, List.setIfInBounds_toArray, List.set_cons_zero, List.set_cons_succ]
                  refine wpAnyH_take (i := 9) (v := ?_) (by simp only [List.getElem?_toArray, List.getElem?_cons_succ, List.getElem?_cons_zero]; rfl) (by kernel_rfl) (by kernel_rfl) (by kernel_rfl) (by intro _ _ _ h; exact h) (Or.inl ⟨by rfl, ?_⟩) hHeld ?_
                  rotate_left 1
                  · intro w hSw; (try dsimp only at hSw); go_simp; try with_reducible rfl
                  try simp only [Act.put, List.setIfInBounds_toArray, List.set_cons_zero, List.set_cons_succ]
                  refine wpAnyH_take (i := 10) (v := ?_) (by simp only [List.getElem?_toArray, List.getElem?_cons_succ, List.getElem?_cons_zero]; rfl) (by kernel_rfl) (by kernel_rfl) (by kernel_rfl) (by intro _ _ _ h; exact h) (Or.inl ⟨by rfl, ?_⟩) hHeld ?_
                  rotate_left 1
                  · intro w hSw; (try dsimp only at hSw); go_simp; try with_reducible rfl
                  try simp only [Act.put, List.setIfInBounds_toArray, List.set_cons_zero, List.set_cons_succ]
                  refine wpAnyH_take (i := 11) (v := ?_) (by simp only [List.getElem?_toArray, List.getElem?_cons_succ, List.getElem?_cons_zero]; rfl) (by kernel_rfl) (by kernel_rfl) (by kernel_rfl) (by intro _ _ _ h; exact h) (Or.inl ⟨by rfl, ?_⟩) hHeld ?_
                  rotate_left 1
                  · intro w hSw; (try dsimp only at hSw); go_simp; try with_reducible rfl
                  try simp only [Act.put, List.setIfInBounds_toArray, List.set_cons_zero, List.set_cons_succ]
                  refine wpAnyH_take (i := 12) (v := ?_) (by simp only [List.getElem?_toArray, List.getElem?_cons_succ, List.getElem?_cons_zero]; rfl) (by kernel_rfl) (by kernel_rfl) (by kernel_rfl) (by intro _ _ _ h; exact h) (Or.inl ⟨by rfl, ?_⟩) hHeld ?_
                  rotate_left 1
                  · intro w hSw; (try dsimp only at hSw); go_simp; try with_reducible rfl
                  try simp only [Act.put, List.setIfInBounds_toArray, List.set_cons_zero, List.set_cons_succ]
                  refine wpAnyH_take (i := 13) (v := ?_) (by simp only [List.getElem?_toArray, List.getElem?_cons_succ, List.getElem?_cons_zero]; rfl) (by kernel_rfl) (by kernel_rfl) (by kernel_rfl) (by intro _ _ _ h; exact h) (Or.inl ⟨by rfl, ?_⟩) hHeld ?_
                  rotate_left 1
                  · intro w hSw; (try dsimp only at hSw); go_simp; try with_reducible rfl
                  try simp only [Act.put, List.setIfInBounds_toArray, List.set_cons_zero, List.set_cons_succ]
                  refine wpAnyH_ready (rs := [7]) (by kernel_rfl) (by simp) ?_
                  refine AllReadyH.cons (by simp only [List.getElem?_toArray, List.getElem?_cons_succ, List.getElem?_cons_zero]; rfl) (fun K hK => ?_) AllReadyH.nil
                  go_simp
                  refine (ref18_point w1.heap.size _ _ (qf i) (qg i) (by have := HLQ.out; omega) wr.drew HBW.out.size HOW.out.drew).mono ?_
                  rintro e w6 ⟨⟨v6, rfl, h6⟩, g6⟩
                  have HO6 := Lib.hid h6; have HF6 := Lib.hid (HFR.out.drew.trans g6); have HX6 := Lib.hid (g6.keep _ _ _ (by decide) (by simp) (bx_dr HXR2.out)); have HB6 := Lib.hid (HBW.out.drew.trans g6.below); clear h6 g6
                  go_wp2_with fail
                  refine hK.out _ _ (HQ2.out _ HX6.out HB6.out) (fun hHeld2 => ?_)
                  clear hK K hHeld; have hHeld := hHeld2; clear hHeld2
                  try simp only [Act.put, List.setIfInBounds_toArray, List.set_cons_zero, List.set_cons_succ]
                  refine wpAnyH_ready (rs := [14]) (by kernel_rfl) (by simp) ?_
                  refine AllReadyH.cons (by simp only [List.getElem?_toArray, List.getElem?_cons_succ, List.getElem?_cons_zero]; rfl) (fun K hK => ?_) AllReadyH.nil
                  go_simp
                  refine (ref18_word w1.heap.size v6 _ (qd i) HIS.out.2.2 (by have := HLQ.out; rw [List.length_append, ptB_len]; omega) _ HB6.out.size HO6.out).mono ?_
                  rintro e w8 ⟨⟨v8, rfl, h8⟩, g8⟩
                  have HO8 := Lib.hid (show OwB w8 w1.heap.size v8 (hdrB op m d v p ++ rgsB Q F G m ++ ptsB f g j ++ qusB qf qg qd (i + 1)) from by rw [qusB, quB, ← List.append_assoc, ← List.append_assoc]; exact h8); have HF8 := Lib.hid (HF6.out.trans g8); have HX8 := Lib.hid (g8.keep _ _ _ (by decide) (by simp) HX6.out); have HB8 := Lib.hid (HB6.out.trans g8.below); clear h8 g8
                  go_wp2_with fail
                  refine hK.out _ _ (HQ2.out _ HX8.out HB8.out) (fun hHeld2 => ?_)
                  clear hK K hHeld; have hHeld := hHeld2; clear hHeld2
                  try simp only [Act.put, List.setIfInBounds_toArray, List.set_cons_zero, List.set_cons_succ]
                  refine wpAnyH_take (i := 15) (v := ?_) (by simp only [List.getElem?_toArray, List.getElem?_cons_succ, List.getElem?_cons_zero]; rfl) (by kernel_rfl) (by kernel_rfl) (by kernel_rfl) (by intro _ _ _ h; exact h) (Or.inl ⟨by rfl, ?_⟩) hHeld ?_
                  rotate_left 1
                  · intro w hSw; (try dsimp only at hSw); go_simp; try with_reducible rfl
                  try simp only [Act.put, List.setIfInBounds_toArray, List.set_cons_zero, List.set_cons_succ]
                  refine wpAnyH_done (by kernel_rfl) ?_ _
                  clear hHeld
                  go_wp2_with fail
                  go_roundw
                  case rel => exact ⟨i + 1, hil, by go_num, HO8.out, HF8.out⟩
                  case measure => exact hms3.out
                · obtain rfl : i = nq := by omega
                  go_wp2_with fail
                  go_ret2
                  exact ⟨⟨_, rfl, HOW.out.mono HB1.out.size⟩, HB1.out.trans (HBW.out.mono HB1.out.size)⟩
end Go.Proofs.YtjdiilkljgljkaaGreatDoor
namespace Go.Proofs.YtjdiilkljgljkaaGreatDoor
set_option linter.unusedVariables false
set_option linter.unusedSimpArgs false
open Go.RowKit Wd

theorem OwB.by' {w : World} {base : Nat} {v : Value} {l : List Int} (h : OwB w base v l) : ∃ A N c, v = .slice A N c ∧ l.length = N ∧ By w A c l := by
  obtain ⟨A, c, h1, h2⟩ := h.by
  exact ⟨A, _, c, h1, rfl, h2⟩
set_option maxHeartbeats 4000000 in
set_option maxRecDepth 100000 in
theorem top_requestR (op p : Int) (np nq : Nat) (hop : OpN op p np nq) (HA : Option Addr) (hc : Nat) (Qh : Nat → Option Addr × Nat × Nat) (A : Option Addr) (n c : Nat) (d : Nat → Bool) (v : Nat → Int) (Q : Nat → Option Addr × Nat × Nat) (F G : Nat → Nat → Int) (PA : Option Addr) (pc : Nat) (f g : Nat → Int) (QA : Option Addr) (qc : Nat) (qf qg qd : Nat → Int) (w : World)
    (hh : Rgs w HA n hc d v Qh) (hq : ∀ k, k < n → (Qh k).2.1 = 0) (hr : Rgs w A n c d v Q) (hp : RgP w n Q F G) (ho : OkR n v Q) (hpp : Pts w PA np pc f g) (hqq : Qus w QA nq qc qf qg qd) :
    Calls Tryz.prog 8 #[.agg #[.int .i64 op, .int .i64 0, .slice HA n hc, .int .i64 p, .slice A n c, .slice PA np pc, .slice QA nq qc]] w fun e w' => (∃ A' N c', e = .returned (.slice A' N c') ∧ (reqB op n d v p Q F G np f g nq qf qg qd).length = N ∧ By w' A' c' (reqB op n d v p Q F G np f g nq qf qg qd)) ∧ Below w.heap.size w w' := by
  have HE := Lib.hid (ref18_EncodeR op p np nq hop HA hc Qh A n c d v Q F G PA pc f g QA qc qf qg qd (w.alloc (.cells #[.int .i64 op, .int .i64 0, .slice HA n hc, .int .i64 p, .slice A n c, .slice PA np pc, .slice QA nq qc] 32)) (hh.alloc _) hq (hr.alloc _) (hp.alloc _) ho (hpp.alloc _) (hqq.alloc _))
  clear hop hh hq hr hp ho hpp hqq
  have HB1 := Lib.hid (show Below w.heap.size w (w.alloc (.cells #[.int .i64 op, .int .i64 0, .slice HA n hc, .int .i64 p, .slice A n c, .slice PA np pc, .slice QA nq qc] 32)) from below_al below_rf)
  generalize hL : reqB op n d v p Q F G np f g nq qf qg qd = L at *
  go_enter Tryz.func8, Tryz.ntmps8
  go_wp2_with fail
  refine HE.out.mono ?_
  rintro e w2 ⟨⟨v, rfl, ho2⟩, B⟩
  obtain ⟨A', N, c', rfl, hN, hy⟩ := ho2.by'
  have HY := Lib.hid hy; have HB := Lib.hid (HB1.out.trans (B.mono HB1.out.size)); have HN := Lib.hid hN
  clear hy ho2 B hN
  go_wp2_with fail
  go_ret
  exact ⟨⟨A', N, c', rfl, HN.out, HY.out⟩, HB.out⟩
theorem Qus.nil (w : World) (f g d : Nat → Int) : Qus w none 0 0 f g d :=
  ⟨Nat.le_refl _, Nat.zero_le _, fun i hi => absurd hi (Nat.not_lt_zero _), fun h => absurd h (Nat.lt_irrefl _)⟩
theorem Pts.nil (w : World) (f g : Nat → Int) : Pts w none 0 0 f g :=
  ⟨Nat.le_refl _, Nat.zero_le _, fun i hi => absurd hi (Nat.not_lt_zero _), fun h => absurd h (Nat.lt_irrefl _)⟩
theorem reqB4 (n : Nat) (d : Nat → Bool) (v : Nat → Int) (Q : Nat → Option Addr × Nat × Nat) (F G : Nat → Nat → Int) (f g qf qg qd : Nat → Int) : reqB 4 n d v 0 Q F G 1 f g 0 qf qg qd = hdrB 4 n d v 0 ++ (rgsB Q F G n ++ ptsB f g 1) := by
  unfold reqB; rw [qusB, List.append_nil, List.append_assoc]
theorem bx_pts1 {w : World} {b : Nat} {x y : Int} {t : TypeId} (h : Bx w b #[.int .i64 x, .int .i64 y] t) (hx : IsI x) (hy : IsI y) : Pts w (some ⟨b, 0, none⟩) 1 1 (fun _ => x) (fun _ => y) :=
  ⟨Nat.le_refl _, by decide, fun i hi => ⟨hx, hy⟩, fun _ => ⟨b, 0, rfl, h.lt, fun i hi => by
    obtain rfl : i = 0 := by omega
    exact ⟨h.cell 0 rfl, h.cell 1 rfl⟩⟩⟩
end Go.Proofs.YtjdiilkljgljkaaGreatDoor
namespace Go.Proofs.YtjdiilkljgljkaaGreatDoor
set_option linter.unusedVariables false
set_option linter.unusedSimpArgs false
open Go.RowKit Wd

set_option maxHeartbeats 4000000 in
set_option maxRecDepth 100000 in
theorem top_member (A : Option Addr) (n c : Nat) (d : Nat → Bool) (v : Nat → Int) (Q : Nat → Option Addr × Nat × Nat) (F G : Nat → Nat → Int) (px py : Int) (hx : IsI px) (hy : IsI py) (ho : OkR n v Q) (w : World) (hr : Rgs w A n c d v Q) (hp : RgP w n Q F G) :
    Calls Tryz.prog 19 #[.slice A n c, .agg #[.int .i64 px, .int .i64 py]] w fun e w' => (∃ q : Option Addr × Nat × Nat, e = .returned (.slice q.1 q.2.1 q.2.2) ∧ (hdrB 4 n d v 0 ++ (rgsB Q F G n ++ ptsB (fun _ => px) (fun _ => py) 1)).length = q.2.1 ∧ By w' q.1 q.2.2 (hdrB 4 n d v 0 ++ (rgsB Q F G n ++ ptsB (fun _ => px) (fun _ => py) 1))) ∧ Below w.heap.size w w' := by
  have HO := Lib.hid ho; have FR := Lib.hid hr; have FP := Lib.hid hp; have HIX := Lib.hid hx; have HIY := Lib.hid hy
  clear ho hr hp hx hy
  have HB0 := Lib.hid (Below.refl w.heap.size w)
  have HLQ := Lib.hid (reqB4 n d v Q F G (fun _ => px) (fun _ => py) (fun _ => 0) (fun _ => 0) (fun _ => 0))
  generalize hL : hdrB 4 n d v 0 ++ (rgsB Q F G n ++ ptsB (fun _ => px) (fun _ => py) 1) = L at *
  go_enter Tryz.func19, Tryz.ntmps19
  go_wp2_with fail
  have B : Below w.heap.size w (w.alloc (.cells #[.int .i64 px, .int .i64 py] 23)) := (HB0.out.alloc HB0.out.size _)
  have C : Below w.heap.size w (w.alloc (.cells #[.int .i64 px, .int .i64 py] 23)) := ((Below.refl w.heap.size w).alloc (Nat.le_refl _) _)
  have X0 : Bx (w.alloc (.cells #[.int .i64 px, .int .i64 py] 23)) (w.heap.size) #[.int .i64 px, .int .i64 py] 23 := by simpa using (Bx.new w #[.int .i64 px, .int .i64 py] 23)
  have FR_1 := Lib.hid (FR.out.below C (Nat.le_refl _))
  have FP_1 := Lib.hid (FP.out.below C (Nat.le_refl _))
  have HB1 := Lib.hid B
  have FX_1 := Lib.hid X0
  clear B C X0 HB0 FR FP
  generalize (w.alloc (.cells #[.int .i64 px, .int .i64 py] 23)) = w1 at *
  skip
  refine (wpIn_wide (n := 0)).1 ?_
  refine wpIn_region_any (by kernel_rfl) ?_
  change wpAnyIn _ _ _ _ _ _ _ _ _ (World.drew _)
  have RB1 := Lib.hid (below_drew0 w1)
  refine wpAnyIn_tail WideF.wide (fun a b => Below a.heap.size a b) (fun _ => below_rf) (fun _ _ _ h k => below_tr h k) [⟨0, 5, fun z_ _ => z_ = .slice A n c⟩, ⟨1, 6, fun x w => ∃ q : Nat × Nat, x = .slice (some ⟨q.1, 0, none⟩) n q.2 ∧ Rgs w (some ⟨q.1, 0, none⟩) n q.2 d v Q0⟩, ⟨2, 7, fun x w => ∃ q : Nat × Nat, x = .agg #[.int .i64 4, .int .i64 0, .slice (some ⟨q.1, 0, none⟩) n q.2, .int .i64 0] ∧ Rgs w (some ⟨q.1, 0, none⟩) n q.2 d v Q0⟩, ⟨3, 8, fun z_ _ => z_ = .slice A n c⟩, ⟨4, 9, fun z_ _ => z_ = .agg #[.int .i64 px, .int .i64 py]⟩, ⟨5, 10, fun x w => ∃ b_ : Nat, x = .slice (some ⟨b_, 0, none⟩) 1 1 ∧ Bx w b_ #[.int .i64 px, .int .i64 py] 23⟩, ⟨6, 11, fun x w => ∃ q : (Nat × Nat) × Nat, x = .agg #[.int .i64 4, .int .i64 0, .slice (some ⟨q.1.1, 0, none⟩) n q.1.2, .int .i64 0, .slice A n c, .slice (some ⟨q.2, 0, none⟩) 1 1, .slice none 0 0] ∧ Rgs w (some ⟨q.1.1, 0, none⟩) n q.1.2 d v Q0 ∧ Bx w q.2 #[.int .i64 px, .int .i64 py] 23⟩, ⟨7, 12, fun x w => ∃ q : Option Addr × Nat × Nat, x = .slice q.1 q.2.1 q.2.2 ∧ (L.length = q.2.1 ∧ By w q.1 q.2.2 L)⟩, ⟨8, 4, fun x w => ∃ q : Option Addr × Nat × Nat, x = .slice q.1 q.2.1 q.2.2 ∧ (L.length = q.2.1 ∧ By w q.1 q.2.2 L)⟩] 9 (by kernel_rfl) ?_ ?_ ?_
  · refine ⟨?_, ?_, ?_, ?_, ?_, ?_, ?_, ?_, ?_, trivial⟩
    all_goals (intro x w w' hb h; first | exact h | (obtain ⟨b_, h1, h2, h3⟩ := h; first | exact ⟨b_, h1, h2, h3.below hb (Nat.le_refl _)⟩ | exact ⟨b_, h1, h2.below hb (Nat.le_refl _), h3.below hb (Nat.le_refl _)⟩) | (obtain ⟨b_, h1, h2⟩ := h; exact ⟨b_, h1, h2.below hb (Nat.le_refl _)⟩))
  · refine ⟨?_, ?_, ?_, ?_, ?_, ?_, ?_, ?_, ?_, trivial⟩
    · intro a wz K hb ht hd hK
      have hbw := Lib.hid (below_tr RB1.out hb); clear hb
      have hx0 := (ht 0 rfl).trans rfl
      have es0 : a.tmps.getD 0 undef = _ := getD_of hx0; clear hx0
      clear ht hd
      have HK := Lib.hid hK; clear hK
      refine wpOpP_step (by simp only [List.getElem?_toArray, List.getElem?_cons_succ, List.getElem?_cons_zero]; rfl) (fun K' hK' => ?_)
      have HK' := Lib.hid hK'; clear hK'
      go_simp
      exact HK'.out _ _ (HK.out _ _ below_rf rfl)
    · intro a wz K hb ht hd hK
      have hbw := Lib.hid (below_tr RB1.out hb); clear hb
      obtain ⟨x5, hx5, hp5⟩ := hd 0 _ rfl (by kernel_rfl)
      obtain rfl := hp5
      have es5 : a.tmps.getD 5 undef = _ := getD_of hx5; clear hx5
      clear ht hd
      have HK := Lib.hid hK; clear hK
      refine wpOpP_step (by simp only [List.getElem?_toArray, List.getElem?_cons_succ, List.getElem?_cons_zero]; rfl) (fun K' hK' => ?_)
      have HK' := Lib.hid hK'; clear hK'
      go_simp
      refine (top_public A n c d v Q HO.out.toOkK _ (FR_1.out.below hbw.out (Nat.le_refl _))).mono ?_
      rintro e w1 ⟨⟨g, rc, rfl, hg⟩, B⟩
      go_wp2_with fail
      exact HK'.out _ _ (HK.out _ _ B ⟨(g, rc), rfl, hg⟩)
    · intro a wz K hb ht hd hK
      have hbw := Lib.hid (below_tr RB1.out hb); clear hb
      obtain ⟨x6, hx6, hp6⟩ := hd 1 _ rfl (by kernel_rfl)
      obtain ⟨q6, rfl, S6⟩ := hp6
      have es6 : a.tmps.getD 6 undef = _ := getD_of hx6; have et6 := getO_of hx6; clear hx6
      clear ht hd
      have HK := Lib.hid hK; clear hK
      refine wpOpP_step (by simp only [List.getElem?_toArray, List.getElem?_cons_succ, List.getElem?_cons_zero]; rfl) (fun K' hK' => ?_)
      have HK' := Lib.hid hK'; clear hK'
      go_simp
      exact HK'.out _ _ (HK.out _ _ below_rf ⟨q6, rfl, S6⟩)
    · intro a wz K hb ht hd hK
      have hbw := Lib.hid (below_tr RB1.out hb); clear hb
      have hx0 := (ht 0 rfl).trans rfl
      have es0 : a.tmps.getD 0 undef = _ := getD_of hx0; clear hx0
      clear ht hd
      have HK := Lib.hid hK; clear hK
      refine wpOpP_step (by simp only [List.getElem?_toArray, List.getElem?_cons_succ, List.getElem?_cons_zero]; rfl) (fun K' hK' => ?_)
      have HK' := Lib.hid hK'; clear hK'
      go_simp
      exact HK'.out _ _ (HK.out _ _ below_rf rfl)
    · intro a wz K hb ht hd hK
      have hbw := Lib.hid (below_tr RB1.out hb); clear hb
      have hx3 := (ht 3 rfl).trans rfl
      have es3 : a.tmps.getD 3 undef = _ := getD_of hx3; clear hx3
      clear ht hd
      have zc0 := (FX_1.out.below hbw.out (Nat.le_refl _)).cell 0 (v := .int .i64 px) rfl
      have zc1 := (FX_1.out.below hbw.out (Nat.le_refl _)).cell 1 (v := .int .i64 py) rfl
      have HK := Lib.hid hK; clear hK
      refine wpOpP_step (by simp only [List.getElem?_toArray, List.getElem?_cons_succ, List.getElem?_cons_zero]; rfl) (fun K' hK' => ?_)
      have HK' := Lib.hid hK'; clear hK'
      go_simp
      exact HK'.out _ _ (HK.out _ _ below_rf rfl)
    · intro a wz K hb ht hd hK
      have hbw := Lib.hid (below_tr RB1.out hb); clear hb
      obtain ⟨x9, hx9, hp9⟩ := hd 4 _ rfl (by kernel_rfl)
      obtain rfl := hp9
      have es9 : a.tmps.getD 9 undef = _ := getD_of hx9; have et9 := getO_of hx9; clear hx9
      clear ht hd
      have HK := Lib.hid hK; clear hK
      refine wpOpP_step (by simp only [List.getElem?_toArray, List.getElem?_cons_succ, List.getElem?_cons_zero]; rfl) (fun K' hK' => ?_)
      have HK' := Lib.hid hK'; clear hK'
      go_simp
      exact HK'.out _ _ (HK.out _ _ (below_al below_rf) ⟨_, rfl, Bx.new _ _ _⟩)
    · intro a wz K hb ht hd hK
      have hbw := Lib.hid (below_tr RB1.out hb); clear hb
      obtain ⟨x7, hx7, hp7⟩ := hd 2 _ rfl (by kernel_rfl)
      obtain ⟨q7, rfl, S7⟩ := hp7
      have es7 : a.tmps.getD 7 undef = _ := getD_of hx7; have et7 := getO_of hx7; clear hx7
      obtain ⟨x8, hx8, hp8⟩ := hd 3 _ rfl (by kernel_rfl)
      obtain rfl := hp8
      have es8 : a.tmps.getD 8 undef = _ := getD_of hx8; have et8 := getO_of hx8; clear hx8
      obtain ⟨x10, hx10, hp10⟩ := hd 5 _ rfl (by kernel_rfl)
      obtain ⟨b10, rfl, S10⟩ := hp10
      have es10 : a.tmps.getD 10 undef = _ := getD_of hx10; have et10 := getO_of hx10; clear hx10
      clear ht hd
      have HK := Lib.hid hK; clear hK
      refine wpOpP_step (by simp only [List.getElem?_toArray, List.getElem?_cons_succ, List.getElem?_cons_zero]; rfl) (fun K' hK' => ?_)
      have HK' := Lib.hid hK'; clear hK'
      go_simp
      exact HK'.out _ _ (HK.out _ _ below_rf ⟨(q7, b10), rfl, S7, S10⟩)
    · intro a wz K hb ht hd hK
      have hbw := Lib.hid (below_tr RB1.out hb); clear hb
      obtain ⟨x11, hx11, hp11⟩ := hd 6 _ rfl (by kernel_rfl)
      obtain ⟨q11, rfl, S11, T11⟩ := hp11
      have es11 : a.tmps.getD 11 undef = _ := getD_of hx11; clear hx11
      clear ht hd
      have HK := Lib.hid hK; clear hK
      refine wpOpP_step (by simp only [List.getElem?_toArray, List.getElem?_cons_succ, List.getElem?_cons_zero]; rfl) (fun K' hK' => ?_)
      have HK' := Lib.hid hK'; clear hK'
      go_simp
      refine (top_requestR 4 0 1 0 (.inl ⟨rfl, rfl, rfl, rfl⟩) _ _ Q0 A n c d v Q F G _ _ (fun _ => px) (fun _ => py) none 0 (fun _ => 0) (fun _ => 0) (fun _ => 0) _ S11 (fun _ _ => rfl) (FR_1.out.below hbw.out (Nat.le_refl _)) (FP_1.out.below hbw.out (Nat.le_refl _)) HO.out (bx_pts1 T11 HIX.out HIY.out) (Qus.nil _ _ _ _)).mono ?_
      rintro e w1 ⟨⟨A1, N1, c1, rfl, hN, hy⟩, B⟩
      rw [HLQ.out] at hN hy
      go_wp2_with fail
      exact HK'.out _ _ (HK.out _ _ B ⟨(A1, N1, c1), rfl, hN, hy⟩)
    · intro a wz K hb ht hd hK
      have hbw := Lib.hid (below_tr RB1.out hb); clear hb
      obtain ⟨x12, hx12, hp12⟩ := hd 7 _ rfl (by kernel_rfl)
      obtain ⟨q12, rfl, S12⟩ := hp12
      have es12 : a.tmps.getD 12 undef = _ := getD_of hx12; clear hx12
      clear ht hd
      have HK := Lib.hid hK; clear hK
      refine wpOpP_step (by simp only [List.getElem?_toArray, List.getElem?_cons_succ, List.getElem?_cons_zero]; rfl) (fun K' hK' => ?_)
      have HK' := Lib.hid hK'; clear hK'
      go_simp
      exact HK'.out _ _ (HK.out _ _ below_rf ⟨q12, rfl, S12⟩)
  intro w2 X hb hv
  simp only [List.foldl_cons, List.foldl_nil, Act.put, List.setIfInBounds_toArray, List.set_cons_zero, List.set_cons_succ, List.toList_toArray, List.drop_succ_cons, List.drop_zero]
  obtain ⟨hv0, hv1, hv2, hv3, hv4, hv5, hv6, hv7, hv8, -⟩ := hv
  have hV0 : (fun z_ _ => z_ = .slice A n c) (X 5) w2 := hv0; clear hv0; have hv0 := hV0; clear hV0; generalize X 5 = X5 at *
  have hV1 : (fun x w => ∃ q : Nat × Nat, x = .slice (some ⟨q.1, 0, none⟩) n q.2 ∧ Rgs w (some ⟨q.1, 0, none⟩) n q.2 d v Q0) (X 6) w2 := hv1; clear hv1; have hv1 := hV1; clear hV1; generalize X 6 = X6 at *
  have hV2 : (fun x w => ∃ q : Nat × Nat, x = .agg #[.int .i64 4, .int .i64 0, .slice (some ⟨q.1, 0, none⟩) n q.2, .int .i64 0] ∧ Rgs w (some ⟨q.1, 0, none⟩) n q.2 d v Q0) (X 7) w2 := hv2; clear hv2; have hv2 := hV2; clear hV2; generalize X 7 = X7 at *
  have hV3 : (fun z_ _ => z_ = .slice A n c) (X 8) w2 := hv3; clear hv3; have hv3 := hV3; clear hV3; generalize X 8 = X8 at *
  have hV4 : (fun z_ _ => z_ = .agg #[.int .i64 px, .int .i64 py]) (X 9) w2 := hv4; clear hv4; have hv4 := hV4; clear hV4; generalize X 9 = X9 at *
  have hV5 : (fun x w => ∃ b_ : Nat, x = .slice (some ⟨b_, 0, none⟩) 1 1 ∧ Bx w b_ #[.int .i64 px, .int .i64 py] 23) (X 10) w2 := hv5; clear hv5; have hv5 := hV5; clear hV5; generalize X 10 = X10 at *
  have hV6 : (fun x w => ∃ q : (Nat × Nat) × Nat, x = .agg #[.int .i64 4, .int .i64 0, .slice (some ⟨q.1.1, 0, none⟩) n q.1.2, .int .i64 0, .slice A n c, .slice (some ⟨q.2, 0, none⟩) 1 1, .slice none 0 0] ∧ Rgs w (some ⟨q.1.1, 0, none⟩) n q.1.2 d v Q0 ∧ Bx w q.2 #[.int .i64 px, .int .i64 py] 23) (X 11) w2 := hv6; clear hv6; have hv6 := hV6; clear hV6; generalize X 11 = X11 at *
  have hV7 : (fun x w => ∃ q : Option Addr × Nat × Nat, x = .slice q.1 q.2.1 q.2.2 ∧ (L.length = q.2.1 ∧ By w q.1 q.2.2 L)) (X 12) w2 := hv7; clear hv7; have hv7 := hV7; clear hV7; generalize X 12 = X12 at *
  have hV8 : (fun x w => ∃ q : Option Addr × Nat × Nat, x = .slice q.1 q.2.1 q.2.2 ∧ (L.length = q.2.1 ∧ By w q.1 q.2.2 L)) (X 4) w2 := hv8; clear hv8; have hv8 := hV8; clear hV8; generalize X 4 = X4 at *
  obtain rfl := hv0
  clear hv1
  clear hv2
  obtain rfl := hv3
  obtain rfl := hv4
  clear hv5
  clear hv6
  clear hv7
  obtain ⟨q4, rfl, S4⟩ := hv8
  have RC := Lib.hid (below_tr RB1.out hb); clear hb
  have FR_2 := Lib.hid (FR_1.out.below RC.out (Nat.le_refl _))
  have FP_2 := Lib.hid (FP_1.out.below RC.out (Nat.le_refl _))
  have FX_2 := Lib.hid (FX_1.out.below RC.out (Nat.le_refl _))
  have HB2 := Lib.hid (HB1.out.trans (RC.out.mono HB1.out.size))
  clear HB1 FR_1 FP_1 FX_1 RB1
  refine wpListIn_nil ?_
  go_wp2_with fail
  go_ret
  exact ⟨⟨q4, rfl, S4⟩, HB2.out⟩
end Go.Proofs.YtjdiilkljgljkaaGreatDoor
namespace Go.Proofs.YtjdiilkljgljkaaGreatDoor
set_option linter.unusedVariables false
set_option linter.unusedSimpArgs false
open Go.RowKit Wd

set_option maxHeartbeats 4000000 in
set_option maxRecDepth 100000 in
theorem law20_Skip (A : Option Addr) (n c : Nat) (d : Nat → Bool) (v : Nat → Int) (Q : Nat → Option Addr × Nat × Nat) (QA : Option Addr) (qn qc : Nat) (w : World) (hr : Rgs w A n c d v Q) :
    Calls Tryz.prog 14 #[.slice A n c, .slice QA qn qc] w fun e w' => (∃ x : Int, e = .returned (.int .i64 x) ∧ (0 < x ∨ qn ≤ 100)) ∧ Below w.heap.size w w' := by
  have HR := Lib.hid hr
  have hcp := hr.cap
  have hmx := hr.max
  clear hr
  unfold maxLen at hmx
  go_enter Tryz.func14, Tryz.ntmps14
  go_wp2_with fail
  refine (law16_Large A n c d v Q _ HR.out).mono ?_
  rintro e w2 ⟨⟨x, rfl⟩, B⟩
  have HB2 := Lib.hid B; clear B
  by_cases h0 : x > 0
  · go_wp2_with fail
    go_ret
    exact ⟨⟨1, rfl, .inl (by decide)⟩, HB2.out⟩
  by_cases h1 : (qn : Int) > 100
  · go_wp2_with fail
    go_ret
    exact ⟨⟨1, rfl, .inl (by decide)⟩, HB2.out⟩
  have HQ := Lib.hid (show qn ≤ 100 from by omega)
  go_wp2_with fail
  go_loopw [5, 18] (fun mr ir wr => ∃ (k : Nat) (s : Int), k ≤ n ∧ mr = .int .i64 s ∧ ir = .int .i64 (k : Int) ∧ Below w.heap.size w wr) (fun _ i _ => n - (intOf i).toNat)
  case atStart => exact ⟨0, 0, by omega, rfl, rfl, HB2.out⟩
  case round =>
    obtain ⟨k, s, hk, rfl, rfl, hb⟩ := hrel
    have HB := Lib.hid hb; clear hb
    by_cases hlt : k < n
    · obtain ⟨b, off, rfl, hbl, hc⟩ := HR.out.at_ (by omega)
      have p0 : wr.cell? ⟨b, off + k * 3, none⟩ = some (.bool (d k)) := (HB.out.cell (p := ⟨b, off + k * 3, none⟩) hbl).trans (hc k hlt).1
      have p1 : wr.cell? ⟨b, off + k * 3 + 1, none⟩ = some (.int .i64 (v k)) := (HB.out.cell (p := ⟨b, off + k * 3 + 1, none⟩) hbl).trans (hc k hlt).2.1
      have p2 : wr.cell? ⟨b, off + k * 3 + 2, none⟩ = some (.slice (Q k).1 (Q k).2.1 (Q k).2.2) := (HB.out.cell (p := ⟨b, off + k * 3 + 2, none⟩) hbl).trans (hc k hlt).2.2
      clear hc hbl
      have hms := Lib.hid (show n - (intOf (.int .i64 ((k : Int) + 1))).toNat < n - (intOf (.int .i64 (k : Int))).toNat from by simp [intOf]; omega)
      have HB9 := Lib.hid (show Below w.heap.size w (wr.alloc (.cells #[.bool (d k), .int .i64 (v k), .slice (Q k).1 (Q k).2.1 (Q k).2.2] 48)) from HB.out.alloc HB.out.size _)
      go_wp2_with fail
      go_roundw
      case rel => exact ⟨k + 1, _, hlt, rfl, by go_num, HB9.out⟩
      case measure => exact hms.out
    · obtain rfl : k = n := by omega
      by_cases h2 : 2000 < IntKind.i64.wrap (s * (qn : Int))
      all_goals
        go_wp2_with fail
        all_goals (go_ret; exact ⟨⟨_, rfl, .inr HQ.out⟩, HB.out⟩)
end Go.Proofs.YtjdiilkljgljkaaGreatDoor
namespace Go.Proofs.YtjdiilkljgljkaaGreatDoor
set_option linter.unusedVariables false
set_option linter.unusedSimpArgs false
open Go.RowKit Wd

/-- the element at index i of a list of n elements in reverse -/
def rv {α : Type _} (n : Nat) (p : Nat → α) : Nat → α := fun i => p (n - 1 - i)
theorem allB_rv (n : Nat) (p : Nat → Bool) : allB (rv n p) n = allB p n := by
  rw [Bool.eq_iff_iff, allB_iff, allB_iff]
  constructor
  · intro h i hi
    have := h (n - 1 - i) (by omega)
    unfold rv at this; rw [show n - 1 - (n - 1 - i) = i by omega] at this; exact this
  · intro h i hi; exact h _ (by omega)
theorem anyB_rv (n : Nat) (p : Nat → Bool) : anyB (rv n p) n = anyB p n := by
  rw [Bool.eq_iff_iff, anyB_iff, anyB_iff]
  constructor
  · rintro ⟨i, hi, h⟩; exact ⟨n - 1 - i, by omega, h⟩
  · rintro ⟨i, hi, h⟩
    refine ⟨n - 1 - i, by omega, ?_⟩
    unfold rv; rw [show n - 1 - (n - 1 - i) = i by omega]; exact h
theorem memR_rv (n : Nat) (d L : Nat → Bool) : memR (rv n d) (rv n L) n = memR d L n := by
  have h1 : alR (rv n d) (rv n L) n = alR d L n := anyB_rv n (fun i => L i && !d i)
  have h2 : deR (rv n d) (rv n L) n = deR d L n := anyB_rv n (fun i => L i && d i)
  unfold memR; rw [h1, h2]
theorem vR_rv (n : Nat) (v : Nat → Int) (Q : Nat → Option Addr × Nat × Nat) (F G : Nat → Nat → Int) : vR (rv n v) (rv n Q) (rv n F) (rv n G) = rv n (vR v Q F G) := rfl
theorem lR_rv (n : Nat) (v : Nat → Int) (Q : Nat → Option Addr × Nat × Nat) (F G : Nat → Nat → Int) (x y : Int) : lR (rv n v) (rv n Q) (rv n F) (rv n G) x y = rv n (lR v Q F G x y) := rfl
theorem fen_rv (n : Nat) (d : Nat → Bool) (v : Nat → Int) (Q : Nat → Option Addr × Nat × Nat) (F G : Nat → Nat → Int) (x y : Int) :
    fenA (allB (vR (rv n v) (rv n Q) (rv n F) (rv n G)) n) (memR (rv n d) (lR (rv n v) (rv n Q) (rv n F) (rv n G) x y) n) = fenA (allB (vR v Q F G) n) (memR d (lR v Q F G x y) n) := by
  rw [vR_rv, lR_rv, allB_rv, memR_rv]
theorem OkR.rv {n : Nat} {v : Nat → Int} {Q : Nat → Option Addr × Nat × Nat} (h : OkR n v Q) : OkR n (rv n v) (rv n Q) :=
  ⟨⟨h.pos, h.le, fun i hi => h.kind _ (by omega)⟩, fun i hi => h.num _ (by omega)⟩
theorem RgP.rv {w : World} {n : Nat} {Q : Nat → Option Addr × Nat × Nat} {F G : Nat → Nat → Int} (h : RgP w n Q F G) : RgP w n (rv n Q) (rv n F) (rv n G) :=
  ⟨fun i hi => h.pts _ (by omega)⟩
end Go.Proofs.YtjdiilkljgljkaaGreatDoor
namespace Go.Proofs.YtjdiilkljgljkaaGreatDoor
open Go.Shelf
def revRg_ren : Go.Shelf.Ren := ⟨fun | 35 => 17 | n => n, fun | 22 => 26 | 23 => 48 | 3 => 3 | 4 => 4 | 0 => 0 | n => n, fun | n => n⟩
theorem revRg : Go.Proofs.SlLaysE0.n35 Tryz.prog revRg_ren := {
  mixed := by kernel_rfl
  f35 := ⟨Tryz.f17.name, by decide, Tryz.func17.trans (congrArg some (by kernel_rfl))⟩
  t0 := Tryz.underlying0
  a0 := Tryz.isAgg0
  z0 := Tryz.sizeOf0
  v0 := Tryz.zeroValue0
  t3 := Tryz.underlying3
  a3 := Tryz.isAgg3
  z3 := Tryz.sizeOf3
  v3 := Tryz.zeroValue3
  t4 := Tryz.underlying4
  a4 := Tryz.isAgg4
  z4 := Tryz.sizeOf4
  v4 := Tryz.zeroValue4
  t22 := Tryz.underlying26
  a22 := Tryz.isAgg26
  z22 := Tryz.sizeOf26
  v22 := Tryz.zeroValue26 }
end Go.Proofs.YtjdiilkljgljkaaGreatDoor
namespace Go.Proofs.YtjdiilkljgljkaaGreatDoor
set_option linter.unusedVariables false
set_option linter.unusedSimpArgs false
open Go.RowKit Wd Go.Shelf Go.Lib Go.Sort

def rgenc (x : Bool × Int × (Option Addr × Nat × Nat)) : List Value := [.bool x.1, .int .i64 x.2.1, .slice x.2.2.1 x.2.2.2.1 x.2.2.2.2]
theorem rgL_one (d : Nat → Bool) (v : Nat → Int) (Q : Nat → Option Addr × Nat × Nat) : ∀ k, ∀ u ∈ rgL d v Q k, u.oneCell' = true
  | 0, u, h => by simp [rgL] at h
  | k + 1, u, h => by
    rw [rgL, List.mem_append] at h
    rcases h with h | h
    · exact rgL_one d v Q k u h
    · simp at h; rcases h with rfl | rfl | rfl <;> rfl
theorem rgsrc {w : World} {b off n c : Nat} {d : Nat → Bool} {v : Nat → Int} {Q : Nat → Option Addr × Nat × Nat} (h : Rgs w (some ⟨b, off, none⟩) n c d v Q) : ∀ j u, (rgL d v Q n)[j]? = some u → w.cell? ((⟨b, off, none⟩ : Addr).add j) = some u := by
  intro j u hj
  have hlt : j < n * 3 := by have := (List.getElem?_eq_some_iff.1 hj).1; rw [rgL_len] at this; exact this
  obtain ⟨b', off', e, _, hc⟩ := h.at_ (by omega)
  cases e
  have ea : (⟨b, off, none⟩ : Addr).add j = ⟨b, off + j, none⟩ := by unfold Addr.add; split <;> simp_all
  rw [ea]
  obtain ⟨q, hq, e⟩ : ∃ q, q < n ∧ (j = q * 3 ∨ j = q * 3 + 1 ∨ j = q * 3 + 2) := ⟨j / 3, by omega, by omega⟩
  obtain ⟨g1, g2, g3⟩ := rgL_get d v Q n q hq
  obtain ⟨c1, c2, c3⟩ := hc q hq
  rcases e with rfl | rfl | rfl
  · rw [hj] at g1; cases g1; exact c1
  · rw [hj] at g2; cases g2; rw [← Nat.add_assoc]; exact c2
  · rw [hj] at g3; cases g3; rw [← Nat.add_assoc]; exact c3
set_option maxHeartbeats 4000000 in
set_option maxRecDepth 100000 in
/-- slices.Clone of a slice that is not empty -/
theorem rgclone (A : Option Addr) (n c : Nat) (d : Nat → Bool) (v : Nat → Int) (Q : Nat → Option Addr × Nat × Nat) (w : World) (hp : Rgs w A n c d v Q) (h0 : 1 ≤ n) (hn : n ≤ 1000) :
    Calls Tryz.prog 16 #[.slice A n c] w fun e w' => (∃ g' c' cur, e = .returned (.slice (some ⟨g', 0, none⟩) n c') ∧ w.heap.size ≤ g' ∧ Bx w' g' cur 48 ∧ n ≤ c' ∧ c' ≤ maxLen ∧ cur.size = c' * 3 ∧ cur.toList.take (n * 3) = rgL d v Q n) ∧ Below w.heap.size w w' := by
  have q22 : ∀ (w : World) (a : Option Addr) (n c n' c' : Nat), (binOp .eql 26 (.slice a n c) (.slice none n' c')).run Tryz.prog w = .ok (.bool a.isNone) w := fun w a n c n' c' => Lib.run_eql_slice_nil w _ _ a n c n' c' Tryz.underlying26
  obtain ⟨i0, hi0, hz0, hz1, hz2⟩ := info_parts infoRg
  have mixed : Tryz.prog.follows .mixedOrders = true := by kernel_rfl
  obtain ⟨b, off, rfl, -⟩ := hp.at_ (by omega)
  have HP := Lib.hid hp; clear hp
  go_enter Tryz.func16, Tryz.ntmps16
  go_wp2_with (at_builtin; refine wpList_append_own _ rfl _ _ 26 rfl w.heap.size 48 i0 _ 3 40 Tryz.underlying26 hi0 hz0 hz1 hz2 rfl (by decide) _ _ _ rfl (World.ownsRow_made w #[] 0 (Nat.le_refl _) (Nat.zero_le _) (by simp)) ⟨b, off, none⟩ n c (rgL d v Q n) rfl ?qc1 ?qc2 ?qc3 ?qc4 ?qc5 ?qc6 ?_)
  case qc1 => exact rgL_len d v Q n
  case qc2 => exact rgsrc (HP.out.alloc _)
  case qc3 => exact rgL_one d v Q n
  case qc4 => unfold maxLen; omega
  case qc5 => omega
  case qc6 => simp
  intro v' w1 hown hgrow hnil
  have HO := Lib.hid hown; have HG := Lib.hid hgrow; have HN := Lib.hid hnil; clear hown hgrow hnil
  go_wp2
  go_ret
  have hB : Below w.heap.size w w1 := ((Below.refl _ w).alloc (Nat.le_refl _) _).grown HG.out (by simp) (by intro k hk; simp [Value.ownBlock] at hk; omega)
  refine ⟨?_, hB⟩
  rcases HO.out.2 with ⟨h1, h2⟩ | ⟨g', cap, cur, h1, h2, h3, h4, h5, h6, h7⟩
  · exact (HN.out h1).elim
  · refine ⟨g', cap, cur, ?_, h2, h3, by omega, h5, h6, by simpa using h7⟩
    rw [h1]; simp
theorem rgisAgg : ∀ w, (isAgg 48).run Tryz.prog w = .ok true w := Tryz.isAgg48
theorem rgsz : ∀ w, (Go.sizeOf 48).run Tryz.prog w = .ok 3 w := Tryz.sizeOf48
theorem rgput_below {g m off : Nat} {w : World} {F : Array Value} : Below g w (Sort.putRow id (Sort.ahead w m) g off F) :=
  ⟨rfl, rfl, rfl, by simp, fun k hk => by
    unfold Sort.putRow Sort.mapBlock
    show (w.heap.modify g _)[k]? = _
    rw [Array.getElem?_modify]; split
    · omega
    · rfl⟩
/-- slices.Reverse of a row -/
theorem rgreverse (g n c : Nat) (d : Nat → Bool) (v : Nat → Int) (Q : Nat → Option Addr × Nat × Nat) (cur : Array Value) (w : World) (hb : Bx w g cur 48) (hr : cur.toList.take (n * 3) = rgL d v Q n) (hi : ∀ i, i < n → IsI (v i)) (hc : n ≤ c) (hm : c ≤ maxLen) :
    Calls Tryz.prog 17 #[.slice (some ⟨g, 0, none⟩) n c] w fun e w' => e = .returned (.tuple #[]) ∧ Rgs w' (some ⟨g, 0, none⟩) n c (rv n d) (rv n v) (rv n Q) ∧ Below g w w' := by
  have hd : ((Array.range n).map fun i => (d i, v i, Q i)).size = n := by simp
  have hg : ∀ i, i < n → ((Array.range n).map fun i => (d i, v i, Q i))[i]! = (d i, v i, Q i) := fun i hi => by
    rw [getElem!_pos _ i (by rw [hd]; exact hi)]; simp
  have hcell : ∀ j u, (rgL d v Q n)[j]? = some u → w.cell? ⟨g, j, none⟩ = some u := fun j u hj => by
    refine hb.cell j ?_
    rw [← hr, List.getElem?_take] at hj
    split at hj
    · simpa using hj
    · cases hj
  have hH : HoldsK rgenc 3 w g 0 ((Array.range n).map fun i => (d i, v i, Q i)) := by
    intro j hj
    rw [size_flatK, hd] at hj
    refine ⟨?_, hb.free _⟩
    rw [get_flatK _ _ _ _ (by rw [hd]; exact hj), hg _ (by omega), Nat.zero_add]
    obtain ⟨h1, h2, h3⟩ := rgL_get d v Q n (j / 3) (by omega)
    rcases (by omega : j = j / 3 * 3 ∨ j = j / 3 * 3 + 1 ∨ j = j / 3 * 3 + 2) with e | e | e
    · rw [show j % 3 = 0 by omega]; rw [← e] at h1; exact hcell j _ h1
    · rw [show j % 3 = 1 by omega]; rw [← e] at h2; exact hcell j _ h2
    · rw [show j % 3 = 2 by omega]; rw [← e] at h3; exact hcell j _ h3
  have := AnyQ.slices_Reverse revRg 3 rgisAgg rgsz rgenc (fun _ => rfl) (fun x v hv => by simp [rgenc] at hv; rcases hv with rfl | rfl | rfl <;> rfl) g 0 c _ w hH (by rw [hd]; unfold maxLen at hm; omega)
  rw [hd] at this
  refine this.mono ?_
  rintro e w' ⟨rfl, m, rfl⟩
  refine ⟨rfl, ⟨hc, hm, fun i hi' => hi _ (by omega), fun hn => ⟨g, 0, rfl, ?_, fun i hi' => ?_⟩⟩, rgput_below⟩
  · have := hb.lt; simp [putRowK]; omega
  · have hR := holdsK_putRowK rgenc 3 (Sort.ahead w m) g 0 _ (((Array.range n).map fun i => (d i, v i, Q i)).reverse) (holdsK_ahead rgenc 3 w m g 0 _ hH) (by simp)
    have hs : i < (((Array.range n).map fun i => (d i, v i, Q i)).reverse).size := by simp; exact hi'
    have hv : (((Array.range n).map fun i => (d i, v i, Q i)).reverse)[i]! = (d (n - 1 - i), v (n - 1 - i), Q (n - 1 - i)) := by
      rw [getElem!_pos _ i hs]; simp
    have e0 := HoldsK.cells hR (fun _ => rfl) hs 0 _ (by rw [hv]; rfl)
    have e1 := HoldsK.cells hR (fun _ => rfl) hs 1 _ (by rw [hv]; rfl)
    have e2 := HoldsK.cells hR (fun _ => rfl) hs 2 _ (by rw [hv]; rfl)
    rw [Addr.add_lit] at e0 e1 e2
    exact ⟨e0, e1, e2⟩
end Go.Proofs.YtjdiilkljgljkaaGreatDoor
namespace Go.Proofs.YtjdiilkljgljkaaGreatDoor
set_option linter.unusedVariables false
namespace Op
open Go.ChangeShapes Go.WideShapes Go.ChangeAt Go.RowKit Wd

variable {H : Type} {enc : TypeId × Value → H} {P : Program} {w : World} {base : Nat} {spare : Nat → Bool} {held : Bool}

theorem open_rgs {t e kb ki kp ep kk : TypeId} {f0 f1 f2 g0 g1 : Field} {A : Option Addr} {n c : Nat} {x : DataW H} {p : List MemPlace} (ht : P.underlying t = some (.slice e)) (he : P.underlying e = some (.struct #[f0, f1, f2])) (t0 : f0.type = kb) (t1 : f1.type = ki) (t2 : f2.type = kp) (o0 : f0.offset = 0) (o1 : f1.offset = 1) (o2 : f2.offset = 2)
    (hkb : P.underlying kb = some .bool) (hki : P.underlying ki = some (.int .i64)) (cb : P.cellsOf kb = 1) (ci : P.cellsOf ki = 1) (cp : P.cellsOf kp = 1) (ce : P.cellsOf e = 3)
    (hkp : P.underlying kp = some (.slice ep)) (hep : P.underlying ep = some (.struct #[g0, g1])) (u0 : g0.type = kk) (u1 : g1.type = kk) (q0 : g0.offset = 0) (q1 : g1.offset = 1) (hk : P.underlying kk = some (.int .i64)) (ck : P.cellsOf kk = 1) (cpt : P.cellsOf ep = 2)
    (h : DataW.Trod enc P w base spare held t (.slice A n c) x p) : ∃ (d : Nat → Bool) (v : Nat → Int) (Q : Nat → Option Addr × Nat × Nat) (F G : Nat → Nat → Int), Rgs w A n c d v Q ∧ RgP w n Q F G := by
  obtain ⟨fuel, hf⟩ := h
  rcases Go.Deep.open_slice ht hf with ⟨hcs, _⟩ | ⟨a, len, cap, m, n', D, Pl, hcs, _, hl, hm, hmm, _, hx⟩
  · have e0 : Value.slice A n c = .slice none 0 0 := by simpa [Value.cells] using hcs
    injection e0 with e1 e2 e3
    subst e1 e2 e3
    exact ⟨fun _ => false, fun _ => 0, fun _ => (none, 0, 0), fun _ _ => 0, fun _ _ => 0, ⟨Nat.le_refl _, Nat.zero_le _, fun i hi => absurd hi (Nat.not_lt_zero _), fun h => absurd h (Nat.lt_irrefl _)⟩, ⟨fun i hi => absurd hi (Nat.not_lt_zero _)⟩⟩
  · have e0 : Value.slice A n c = .slice (some a) len cap := by simpa [Value.cells] using hcs
    injection e0 with e1 e2 e3
    subst e1 e2 e3
    have hmn : n ≤ m := by rw [hmm]; split <;> omega
    rw [ce] at hx
    obtain ⟨V, hV⟩ := Go.Deep.choose_lt (α := Bool × Int × (Option Addr × Nat × Nat) × (Nat → Int) × (Nat → Int)) (n := n) (p := fun i y => w.cell? ((a.add (i * 3)).add 0) = some (.bool y.1) ∧ w.cell? ((a.add (i * 3)).add 1) = some (.int .i64 y.2.1) ∧ w.cell? ((a.add (i * 3)).add 2) = some (.slice y.2.2.1.1 y.2.2.1.2.1 y.2.2.1.2.2) ∧ IsI y.2.1 ∧ Pts w y.2.2.1.1 y.2.2.1.2.1 y.2.2.1.2.2 y.2.2.2.1 y.2.2.2.2) (fun i hi => by
      obtain ⟨cs', h1, h2⟩ := hx i (by omega)
      obtain ⟨_, hlen, hc⟩ := World.cells?_some h1
      obtain ⟨xs, m', _, _, _, hxl, hff⟩ := DataW.trod_struct he h2
      have l3 : xs.length = 3 := hxl
      match cs', hlen with
      | [v0, v1, v2], _ =>
        match xs, l3 with
        | [y0, y1, y2], _ =>
          have r0 := hff 0 f0 rfl
          have r1 := hff 1 f1 rfl
          have r2 := hff 2 f2 rfl
          rw [t0, o0, cb] at r0
          rw [t1, o1, ci] at r1
          rw [t2, o2, cp] at r2
          simp at r0 r1 r2
          obtain ⟨bb, eb, _⟩ := DataW.trod_bool hkb r0
          obtain ⟨z, ez, _, wz⟩ := DataW.trod_int hki r1
          simp at eb ez
          subst eb ez
          have hs : ∃ A k c, v2 = .slice A k c := by
            rcases Go.Deep.open_slice hkp r2 with ⟨e, _⟩ | ⟨_, _, _, _, _, _, _, e, _⟩
            · simp at e; exact ⟨_, _, _, e⟩
            · simp at e; exact ⟨_, _, _, e⟩
          obtain ⟨A', k', c', rfl⟩ := hs
          obtain ⟨ff, gg, hpt⟩ := open_ptsl (w := w) hkp hep u0 u1 q0 q1 hk ck cpt (d := y2.1) (p := y2.2) ⟨m', r2⟩
          exact ⟨(bb, z, (A', k', c'), ff, gg), hc 0 (by decide), hc 1 (by decide), hc 2 (by decide), isI_of_wf wz, hpt⟩)
    refine ⟨fun i => (V i).1, fun i => (V i).2.1, fun i => (V i).2.2.1, fun i => (V i).2.2.2.1, fun i => (V i).2.2.2.2, ⟨hl, hm, fun i hi => (hV i hi).2.2.2.1, fun hn => ?_⟩, ⟨fun i hi => (hV i hi).2.2.2.2⟩⟩
    obtain ⟨b, off, sp⟩ := a
    have h0 := (hV 0 hn).1
    have h0' : w.cell? ⟨b, off, sp⟩ = some (.bool (V 0).1) := by simpa [Addr.add] using h0
    obtain ⟨rfl, hlt⟩ := spotless h0'
    have ea : ∀ o j, (⟨b, o, none⟩ : Addr).add j = ⟨b, o + j, none⟩ := fun o j => by unfold Addr.add; split <;> simp_all
    refine ⟨b, off, rfl, hlt, fun i hi => ?_⟩
    have hv := hV i hi
    rw [ea, ea, ea, ea] at hv
    exact ⟨hv.1, hv.2.1, hv.2.2.1⟩
end Op
end Go.Proofs.YtjdiilkljgljkaaGreatDoor
