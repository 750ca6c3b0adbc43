/- The contract of the reference's value of an integer (geofenceref03.Value). -/
import Derived.Test.YtfjanlfbnliokaaDoorRef3d
import Derived.Deep.RegionHeld3
namespace Go.Proofs.YtfjanlfbnliokaaDoor
set_option linter.unusedVariables false
set_option linter.unusedSimpArgs false
set_option maxRecDepth 20000
open Go.RowKit

/-! limbs and digits -/
theorem SS (i : Nat) : Dd.S (4 * i) = Wd.S i := by
  induction i with
  | zero => rfl
  | succ n ih =>
    rw [show 4 * (n + 1) = 4 * n + 1 + 1 + 1 + 1 from by omega, Dd.S_succ, Dd.S_succ, Dd.S_succ, Dd.S_succ, ih, Wd.S_succ]
    omega
theorem qq (x : Int) (i : Nat) : Wd.qt x i = Dd.qt x (4 * i) := by unfold Wd.qt Dd.qt; rw [SS]
theorem limb_digit (x : Int) (i k : Nat) (hk : k < 4) : Dd.lmb (Wd.lmb x i) k = Dd.lmb x (4 * i + k) := by
  have e : Wd.lmb x i = Dd.qt x (4 * i) + -(Dd.qt x (4 * i) / 18446744073709551616) * Dd.S 4 := by
    unfold Wd.lmb; rw [qq, s4]; omega
  rw [e, Dd.lmb_cong _ _ hk]
  unfold Dd.lmb
  rw [Dd.qt_add]
/-- the unsigned reading of n limbs -/
def uns (x : Int) (n : Nat) : Int := if x < 0 then x + Wd.S n else x
theorem uns_fits {x : Int} {n : Nat} (h : Wd.Fit n x) : Dd.Fits (4 * n) (uns x n) := by
  have hS := Wd.S_pos n
  unfold Wd.Fit at h
  unfold Dd.Fits uns
  rw [SS]
  split <;> omega
theorem uns_lmb {x : Int} {n j : Nat} (h : j < 4 * n) : Dd.lmb x j = Dd.lmb (uns x n) j := by
  unfold uns
  split
  · have := Dd.lmb_cong x 1 h
    rw [Int.one_mul, SS] at this; exact this.symm
  · rfl

theorem read2 {w : World} {B : Nat} {a b v0 v1 : Value} {t : TypeId} (o : Obj) (h : w.heap[B]? = some (.cells #[a, b] t (0, 0))) :
    (((w.setCell ⟨B, 0, none⟩ v0).setCell ⟨B, 1, none⟩ v1).alloc o).cell? ⟨B, 0, none⟩ = some v0 ∧ (((w.setCell ⟨B, 0, none⟩ v0).setCell ⟨B, 1, none⟩ v1).alloc o).cell? ⟨B, 1, none⟩ = some v1 := by
  have h1 := heap_setCell_same w B 0 _ _ v0 h
  have h2 := heap_setCell_same _ B 1 _ _ v1 h1
  have hlt : B < ((w.setCell ⟨B, 0, none⟩ v0).setCell ⟨B, 1, none⟩ v1).heap.size := by
    rcases Nat.lt_or_ge B ((w.setCell ⟨B, 0, none⟩ v0).setCell ⟨B, 1, none⟩ v1).heap.size with h3 | h3
    · exact h3
    · rw [Array.getElem?_eq_none h3] at h2; cases h2
  have h4 := (Below.heap_alloc _ o B hlt).trans h2
  exact ⟨by simp [World.cell?, h4], by simp [World.cell?, h4]⟩
theorem ref3_powerI (z : Int) (k : Nat) (hz : z = k) (hk : k ≤ 100000) (w : World) :
    Calls Tryd.prog 39 #[.int .i64 z] w fun e w' => (∃ A2 c2, e = .returned (.agg #[.int .i64 (sg (Dd.S k)), .slice A2 (k + 1) c2]) ∧ Nm w' A2 (k + 1) c2 (Dd.S k)) ∧ Below w.heap.size w w' := by
  subst hz; exact ref3_power k hk w

set_option maxHeartbeats 4000000 in
theorem ref3_Value (A : Option Addr) (n c : Nat) (x : Int) (w : World) (ha : Sl w .u64 A n c (Wd.lmb x)) (hx : Wd.Fit n x) (hn : n ≤ 1000) :
    Calls Tryd.prog 26 #[.slice A n c] w fun e w' => (∃ A2 k c2, e = .returned (.agg #[.int .i64 (sg x), .slice A2 k c2]) ∧ k ≤ 4 * n + 2 ∧ Nm w' A2 k c2 x) ∧ Below w.heap.size w w' := by
  obtain ⟨i0, hi0, hz0, hz1, hz2⟩ := info_parts info_int
  have hmaxa := ha.max; have hcapa := ha.cap
  unfold maxLen at hmaxa
  have hb1 : Below w.heap.size w (w.alloc (.cells #[.int .i64 0, .slice none 0 0] 26)) := (Below.refl w.heap.size w).alloc (Nat.le_refl _) _
  have hbox := heap_alloc_new w (.cells #[.int .i64 0, .slice none 0 0] 26)
  have hsz : w.heap.size < (w.alloc (.cells #[.int .i64 0, .slice none 0 0] 26)).heap.size := by simp
  have HA := Lib.hid ha; have HX := Lib.hid hx
  clear ha hx
  go_enter Tryd.func26, Tryd.ntmps26
  go_wp2_with fail
  generalize w.alloc (.cells #[.int .i64 0, .slice none 0 0] 26) = w1 at *
  have HB1 := Lib.hid hb1; have HBX := Lib.hid hbox
  clear hb1 hbox
  go_loopw [3, 4] (fun v i wr => ∃ k : Nat, k ≤ n ∧ i = .int .i64 k ∧ wr.ownsRow w1.heap.size 3 1 v (4 * k) (row .i64 (Dd.lmb x) (4 * k)) ∧ Below w1.heap.size w1 wr) (fun _ i _ => n - (intOf i).toNat)
  case atStart => exact ⟨0, Nat.zero_le _, rfl, World.ownsRow_nil _ _ _ _, Below.refl _ _⟩
  case round =>
    obtain ⟨k, hk, rfl, hown, hbr⟩ := hrel
    have haw := HA.out.below (HB1.out.trans (hbr.mono HB1.out.size)) (Nat.le_refl _)
    have HOW := Lib.hid hown; have HBR := Lib.hid hbr
    clear hown hbr
    by_cases hlt : k < n
    · obtain ⟨b, off, rfl, hblt, hc⟩ := haw.at_ (by omega)
      have c1 := hc k hlt
      have HLW := Lib.hid (Wd.isW_lmb x k)
      clear haw hc
      go_wp2_with fail
      obtain ⟨wo, rfl⟩ : ∃ wo : World, wo = wr := ⟨_, rfl⟩
      go_loopw [3, 5, 6] (fun v u j wr => ∃ l : Nat, l ≤ 4 ∧ j = .int .i64 l ∧ u = .int .u64 (Dd.qt (Wd.lmb x k) l) ∧ wr.ownsRow w1.heap.size 3 1 v (4 * k + l) (row .i64 (Dd.lmb x) (4 * k + l)) ∧ Below w1.heap.size w1 wr) (fun _ _ j _ => 4 - (intOf j).toNat)
      case atStart => exact ⟨0, Nat.zero_le _, rfl, by rw [Dd.qt_zero], HOW.out, HBR.out⟩
      case round =>
        clear HOW HBR c1
        obtain ⟨l, hl, rfl, rfl, hown, hbr⟩ := hrel
        have HOW := Lib.hid hown; have HBR := Lib.hid hbr
        clear hown hbr
        by_cases hlt2 : l < 4
        · have hqe : 0 ≤ Dd.qt (Wd.lmb x k) l ∧ Dd.qt (Wd.lmb x k) l ≤ 18446744073709551615 := by
            have h0 := HLW.out
            unfold Wd.IsW at h0
            have h1 := Int.ediv_nonneg h0.1 (Int.le_of_lt (Dd.S_pos l))
            have h2 := Int.ediv_le_self (b := Dd.S l) h0.1
            unfold Dd.qt; omega
          have HL := Lib.hid (limb_digit x k l hlt2); have HQ := Lib.hid (Dd.qt_succ (Wd.lmb x k) l)
          have hll : Dd.lmb (Wd.lmb x k) l = Dd.qt (Wd.lmb x k) l % 65536 := rfl
          have HLL := Lib.hid hll; clear hll
          go_wp2_with (at_builtin; refine wpList_append_own _ rfl _ _ 24 rfl w1.heap.size 3 i0 (.int .i64 0) 1 8 Tryd.underlying24 hi0 hz0 hz1 hz2 rfl (by decide) _ _ _ rfl (HOW.out.alloc _) ⟨wr.heap.size, 0, none⟩ 1 1 [.int .i64 (Dd.qt (Wd.lmb x k) l % 65536)] rfl rfl (cells_one_new _ _ _) (one_oneCell _ _) (by unfold maxLen; omega) (by omega) (by have := HBR.out.size; simp; omega) ?_)
          intro v' w2 hown2 hgrow _
          have hb3 : Below w1.heap.size w1 w2 := (HBR.out.alloc HBR.out.size _).grown hgrow (by have := HBR.out.size; simp; omega) (own_block_le HOW.out)
          have H3 := Lib.hid (own_push hown2 (by rw [← HL.out, HLL.out])); have B3 := Lib.hid hb3
          clear hown2 hgrow hb3
          go_wp2_with fail
          go_roundw
          case rel => exact ⟨l + 1, by omega, by go_num, by rw [HQ.out], H3.out, B3.out⟩
          case measure => simp [intOf]; omega
        · obtain rfl : l = 4 := by omega
          go_wp2_with fail
          go_roundw
          case rel => exact ⟨k + 1, by omega, by go_num, HOW.out, HBR.out⟩
          case measure => simp [intOf]; omega
    · obtain rfl : k = n := by omega
      obtain ⟨A2, c2, rfl, hsl⟩ := Sl.of_own HOW.out
      have HU := Lib.hid (uns_fits HX.out)
      have HS := Lib.hid (hsl.congr (g := Dd.lmb (uns x k)) (fun j hj => uns_lmb hj)); have HTY := Lib.hid (Ty.of_own HOW.out)
      have HAW := Lib.hid haw
      clear hsl HOW haw
      go_wp2_with fail
      refine (ref3_make16 1 A2 (4 * k) c2 _ (uns x k) _ HS.out HU.out (by have := HU.out.1; omega) (fun h0 => by have := HU.out.1; unfold sg; rw [Int.sign_eq_one_of_pos (by omega)]) HTY.out).mono ?_
      rintro e w5 ⟨⟨A3, k3, c3, rfl, hk3, hnm⟩, hb5⟩
      have hb6 : Below w1.heap.size w1 w5 := HBR.out.trans (hb5.mono HBR.out.size)
      have hwr : w5.heap[w.heap.size]? = some (.cells #[.int .i64 0, .slice none 0 0] 26 (0, 0)) := (hb6.block w.heap.size hsz).trans HBX.out
      have hsz5 : w.heap.size < w5.heap.size := by have := hb6.size; omega
      have haw5 := HAW.out.below hb5 (Nat.le_refl _)
      have HN := Lib.hid hnm; have HR := Lib.hid hwr; have HB5 := Lib.hid (HB1.out.trans (hb6.mono HB1.out.size)); have HA5 := Lib.hid haw5
      clear hnm hb5 hb6 hwr haw5 HBR HB1 HBX HAW HS HTY
      -- the box of the first number: it lies behind w5
      have p0 : (w5.alloc (.cells #[.int .i64 (sg (uns x k)), .slice A3 k3 c3] 26)).heap[w.heap.size]? = some (.cells #[.int .i64 0, .slice none 0 0] 26 (0, 0)) := (Below.heap_alloc w5 _ w.heap.size hsz5).trans HR.out
      have P0 := Lib.hid p0; clear p0
      have pb := Lib.hid (HB5.out.alloc HB5.out.size (.cells #[.int .i64 (sg (uns x k)), .slice A3 k3 c3] 26))
      have pn := Lib.hid (HN.out.below ((Below.refl w5.heap.size w5).alloc (Nat.le_refl _) (.cells #[.int .i64 (sg (uns x k)), .slice A3 k3 c3] 26)) (Nat.le_refl _))
      have pa := Lib.hid (HA5.out.alloc (.cells #[.int .i64 (sg (uns x k)), .slice A3 k3 c3] 26))
      have p1 : (w5.alloc (.cells #[.int .i64 (sg (uns x k)), .slice A3 k3 c3] 26)).cell? ⟨w5.heap.size, 0, none⟩ = some (.int .i64 (sg (uns x k))) := by simp [go_sem]
      have p2 : (w5.alloc (.cells #[.int .i64 (sg (uns x k)), .slice A3 k3 c3] 26)).cell? ⟨w5.heap.size, 1, none⟩ = some (.slice A3 k3 c3) := by simp [go_sem]
      have p3 : w5.heap.size < (w5.alloc (.cells #[.int .i64 (sg (uns x k)), .slice A3 k3 c3] 26)).heap.size := by simp
      by_cases hneg : x < 0
      · have hk0 : 0 < k := by
          rcases Nat.eq_zero_or_pos k with h | h
          · subst h; have := HX.out; unfold Wd.Fit at this; rw [Wd.S_zero] at this; omega
          · exact h
        obtain ⟨b, off, rfl, hblt, hc⟩ := pa.out.at_ hk0
        have c9 := hc (k - 1) (by omega)
        have htop : 9223372036854775808 ≤ Wd.lmb x (k - 1) := by
          obtain ⟨j, rfl⟩ : ∃ j, k = j + 1 := ⟨k - 1, by omega⟩
          rw [Nat.add_sub_cancel]; exact (Wd.top_neg HX.out).2 hneg
        have hdt : decide (9223372036854775808 ≤ Wd.lmb x (k - 1)) = true := by simpa using htop
        have huns : uns x k - Dd.S (4 * k) = x := by rw [SS]; unfold uns; rw [if_pos hneg]; omega
        have HUN := Lib.hid huns
        clear hc htop huns
        go_wp2_with fail
        generalize (w5.alloc (.cells #[.int .i64 (sg (uns x k)), .slice A3 k3 c3] 26)) = w7 at *
        have P1 := Lib.hid p1; have P2 := Lib.hid p2
        clear c9 hdt
        have f5 : ∀ w', Below w7.heap.size w7 w' → w'.cell? ⟨w5.heap.size, 0, none⟩ = some (.int .i64 (sg (uns x k))) ∧ w'.cell? ⟨w5.heap.size, 1, none⟩ = some (.slice A3 k3 c3) := fun w' hb => ⟨(hb.cell (p := ⟨w5.heap.size, 0, none⟩) p3).trans P1.out, (hb.cell (p := ⟨w5.heap.size, 1, none⟩) p3).trans P2.out⟩
        have F5 := Lib.hid f5; clear f5
        go_region_held3 (fun w' => w'.cell? ⟨w5.heap.size, 0, none⟩ = some (.int .i64 (sg (uns x k))) ∧ w'.cell? ⟨w5.heap.size, 1, none⟩ = some (.slice A3 k3 c3)) (first | exact ⟨P1.out, P2.out⟩ | exact F5.out _ B8.out | exact F5.out _ B9.out | exact ⟨set2_cell (F5.out _ B9.out).1 (by omega), set2_cell (F5.out _ B9.out).2 (by omega)⟩) (first | (go_at_call 39; refine (ref3_powerI _ (4 * k) (by first | omega | (rw [IntKind.wrap_i64]; omega)) (by omega) _).mono ?_; rintro e w8 ⟨⟨A4, c4, rfl, hn8⟩, hb8⟩; have B8 := Lib.hid (Below.trans (Below.drew (Below.refl w7.heap.size w7)) hb8); have N8 := Lib.hid hn8; have M8 := Lib.hid (pn.out.below B8.out (Nat.le_refl _)); clear hn8 hb8) | (go_at_call 28; refine (ref3_Sub A3 A4 k3 c3 (4 * k + 1) c4 (uns x k) (Dd.S (4 * k)) _ (by first | exact M8.out | exact nm_draw M8.out) (by first | exact N8.out | exact nm_draw N8.out) (by omega) (by omega)).mono ?_; rintro e w9 ⟨⟨A6, k6, c6, rfl, hk6, hn9⟩, hb9⟩; have B9 := Lib.hid (Below.trans B8.out (Below.mono hb9 B8.out.size)); have N9 := Lib.hid hn9; clear hn9 hb9; have r9 := (B9.out.block w.heap.size (by have := pb.out.size; omega)).trans P0.out; have q0 : w9.cell? ⟨w.heap.size, 0, none⟩ = some (.int .i64 0) := (by simp [World.cell?, r9]); have q1 : w9.cell? ⟨w.heap.size, 1, none⟩ = some (.slice none 0 0) := (by simp [World.cell?, r9]); have q2 : w9.frozen? ⟨w.heap.size, 0, none⟩ = false := (by simp [World.frozen?, r9]); have q3 : w9.frozen? ⟨w.heap.size, 1, none⟩ = false := (by simp [World.frozen?, r9]); have R9 := Lib.hid r9; clear r9))
        go_wp2_with fail
        refine bodyPost_ret (v := .agg #[.int .i64 (sg (uns x k - Dd.S (4 * k))), .slice A6 k6 c6]) (by simp [results, Tryd.results26, go_sem, q0, q1]) rfl ⟨⟨A6, k6, c6, by rw [HUN.out], by omega, ?_⟩, ?_⟩
        · have n9 := N9.out
          rw [HUN.out] at n9
          exact (n9.set_ R9.out (by decide)).set_ (heap_setCell_same w9 w.heap.size 0 _ _ _ R9.out) (by decide)
        · exact ((pb.out.trans (B9.out.mono pb.out.size)).setCell (p := ⟨w.heap.size, 0, none⟩) (Nat.le_refl _) _).setCell (p := ⟨w.heap.size, 1, none⟩) (Nat.le_refl _) _
      · have huns : uns x k = x := by unfold uns; rw [if_neg hneg]
        rw [huns] at P0 pb pn pa p1 p2 p3 HN ⊢
        have zz := read2 (v0 := .int .i64 (sg x)) (v1 := .slice A3 k3 c3) (.cells #[.int .i64 (sg x), .slice A3 k3 c3] 26) HR.out
        have z0 := zz.1; have z1 := zz.2; clear zz
        clear huns HU
        by_cases hk0 : 0 < k
        · obtain ⟨b, off, rfl, hblt, hc⟩ := pa.out.at_ hk0
          have c9 := hc (k - 1) (by omega)
          have htop : ¬ 9223372036854775808 ≤ Wd.lmb x (k - 1) := by
            obtain ⟨j, rfl⟩ : ∃ j, k = j + 1 := ⟨k - 1, by omega⟩
            rw [Nat.add_sub_cancel]; exact fun h => hneg ((Wd.top_neg HX.out).1 h)
          have hdt : decide (9223372036854775808 ≤ Wd.lmb x (k - 1)) = false := by simpa using htop
          clear hc htop
          have q4 : w5.cell? ⟨w.heap.size, 0, none⟩ = some (.int .i64 0) := by simp [World.cell?, HR.out]
          have q5 : w5.cell? ⟨w.heap.size, 1, none⟩ = some (.slice none 0 0) := by simp [World.cell?, HR.out]
          have q6 : w5.frozen? ⟨w.heap.size, 0, none⟩ = false := by simp [World.frozen?, HR.out]
          have q7 : w5.frozen? ⟨w.heap.size, 1, none⟩ = false := by simp [World.frozen?, HR.out]
          have q0 : (w5.alloc (.cells #[.int .i64 (sg x), .slice A3 k3 c3] 26)).cell? ⟨w.heap.size, 0, none⟩ = some (.int .i64 0) := by simp [World.cell?, P0.out]
          have q1 : (w5.alloc (.cells #[.int .i64 (sg x), .slice A3 k3 c3] 26)).cell? ⟨w.heap.size, 1, none⟩ = some (.slice none 0 0) := by simp [World.cell?, P0.out]
          have q2 : (w5.alloc (.cells #[.int .i64 (sg x), .slice A3 k3 c3] 26)).frozen? ⟨w.heap.size, 0, none⟩ = false := by simp [World.frozen?, P0.out]
          have q3 : (w5.alloc (.cells #[.int .i64 (sg x), .slice A3 k3 c3] 26)).frozen? ⟨w.heap.size, 1, none⟩ = false := by simp [World.frozen?, P0.out]
          go_wp2_with fail
          refine bodyPost_ret (v := .agg #[.int .i64 (sg x), .slice A3 k3 c3]) (by simp [results, Tryd.results26, go_sem, z0, z1]) rfl ⟨⟨A3, k3, c3, rfl, by omega, ?_⟩, ?_⟩
          · exact Nm.below ((HN.out.set_ HR.out (by decide)).set_ (heap_setCell_same w5 w.heap.size 0 _ _ _ HR.out) (by decide)) ((Below.refl _ _).alloc (Nat.le_refl _) _) (Nat.le_refl _)
          · exact ((HB5.out.setCell (p := ⟨w.heap.size, 0, none⟩) (Nat.le_refl _) _).setCell (p := ⟨w.heap.size, 1, none⟩) (Nat.le_refl _) _).alloc (by simp [World.setCell]; omega) _
        · have hkz : ¬ (0 : Int) < (k : Int) := by omega
          have q4 : w5.cell? ⟨w.heap.size, 0, none⟩ = some (.int .i64 0) := by simp [World.cell?, HR.out]
          have q5 : w5.cell? ⟨w.heap.size, 1, none⟩ = some (.slice none 0 0) := by simp [World.cell?, HR.out]
          have q6 : w5.frozen? ⟨w.heap.size, 0, none⟩ = false := by simp [World.frozen?, HR.out]
          have q7 : w5.frozen? ⟨w.heap.size, 1, none⟩ = false := by simp [World.frozen?, HR.out]
          have q0 : (w5.alloc (.cells #[.int .i64 (sg x), .slice A3 k3 c3] 26)).cell? ⟨w.heap.size, 0, none⟩ = some (.int .i64 0) := by simp [World.cell?, P0.out]
          have q1 : (w5.alloc (.cells #[.int .i64 (sg x), .slice A3 k3 c3] 26)).cell? ⟨w.heap.size, 1, none⟩ = some (.slice none 0 0) := by simp [World.cell?, P0.out]
          have q2 : (w5.alloc (.cells #[.int .i64 (sg x), .slice A3 k3 c3] 26)).frozen? ⟨w.heap.size, 0, none⟩ = false := by simp [World.frozen?, P0.out]
          have q3 : (w5.alloc (.cells #[.int .i64 (sg x), .slice A3 k3 c3] 26)).frozen? ⟨w.heap.size, 1, none⟩ = false := by simp [World.frozen?, P0.out]
          go_wp2_with fail
          refine bodyPost_ret (v := .agg #[.int .i64 (sg x), .slice A3 k3 c3]) (by simp [results, Tryd.results26, go_sem, z0, z1]) rfl ⟨⟨A3, k3, c3, rfl, by omega, ?_⟩, ?_⟩
          · exact Nm.below ((HN.out.set_ HR.out (by decide)).set_ (heap_setCell_same w5 w.heap.size 0 _ _ _ HR.out) (by decide)) ((Below.refl _ _).alloc (Nat.le_refl _) _) (Nat.le_refl _)
          · exact ((HB5.out.setCell (p := ⟨w.heap.size, 0, none⟩) (Nat.le_refl _) _).setCell (p := ⟨w.heap.size, 1, none⟩) (Nat.le_refl _) _).alloc (by simp [World.setCell]; omega) _
end Go.Proofs.YtfjanlfbnliokaaDoor
