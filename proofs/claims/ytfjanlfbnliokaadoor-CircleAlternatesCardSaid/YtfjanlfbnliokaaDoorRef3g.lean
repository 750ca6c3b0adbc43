/- The contract of the reference's limbs of a number (geofenceref03.Limbs). -/
import Derived.Test.YtfjanlfbnliokaaDoorRef3f
import Derived.StillTailTactics
import Derived.Deep.Cut
namespace Go.Proofs.YtfjanlfbnliokaaDoor
set_option linter.unusedVariables false
set_option linter.unusedSimpArgs false
open Go.RowKit

theorem info_u64g : (Tryd.prog.info? 36).map (fun i => (i.zero, i.size, i.bytes)) = some (some (.int .u64 0), 1, 8) := by kernel_rfl
/-- X, only its first i digits -/
def part (X : Int) (i : Nat) : Int := X - Dd.qt X i * Dd.S i
theorem part_zero (X : Int) : part X 0 = 0 := by unfold part; rw [Dd.qt_zero, Dd.S_zero]; omega
theorem part_succ (X : Int) (i : Nat) : part X (i + 1) = part X i + Dd.lmb X i * Dd.S i := by
  unfold part Dd.lmb
  rw [Dd.qt_succ, Dd.S_succ]
  have e : Dd.qt X i = Dd.qt X i / 65536 * 65536 + Dd.qt X i % 65536 := by omega
  generalize Dd.qt X i / 65536 = u at *
  generalize Dd.qt X i % 65536 = v at *
  rw [e, Int.add_mul]
  have e1 : u * (Dd.S i * 65536) = u * 65536 * Dd.S i := by rw [Int.mul_assoc, Int.mul_comm (Dd.S i), ← Int.mul_assoc]
  rw [e1]; omega
theorem part_range (X : Int) (i : Nat) : 0 ≤ part X i ∧ part X i < Dd.S i := by
  have h1 := Dd.S_pos i
  have e : part X i = X % Dd.S i := by
    have := Int.mul_ediv_add_emod X (Dd.S i)
    unfold part Dd.qt; rw [Int.mul_comm]; omega
  rw [e]
  exact ⟨Int.emod_nonneg X (Int.ne_of_gt h1), Int.emod_lt_of_pos X h1⟩
theorem part_end (X : Int) {n j : Nat} (h : j < n) : Wd.lmb (part X (4 * n)) j = Wd.lmb X j := by
  unfold part
  have e : X - Dd.qt X (4 * n) * Dd.S (4 * n) = X + -(Dd.qt X (4 * n)) * Wd.S n := by rw [SS, Int.neg_mul]; omega
  rw [e, Wd.lmb_cong _ _ h]
/-- one digit more: limb a grows, the others stay -/
theorem part_other (X : Int) (a b j : Nat) (hb : b < 4) (hj : j ≠ a) : Wd.lmb (part X (4 * a + b)) j = Wd.lmb (part X (4 * a + b + 1)) j := by
  have hs : Dd.lmb X (4 * a + b) * Dd.S (4 * a + b) = (Dd.lmb X (4 * a + b) * Dd.S b) * Wd.S a := by rw [Dd.S_add, SS, Int.mul_assoc, Int.mul_comm (Dd.S b)]
  rcases (by omega : j < a ∨ a < j) with h | h
  · rw [part_succ, hs, Wd.lmb_cong _ _ h]
  · have z : ∀ i, i ≤ 4 * j → Wd.lmb (part X i) j = 0 := fun i hi => by
      have h1 := part_range X i
      have h2 := Dd.S_le hi
      rw [SS] at h2
      unfold Wd.lmb Wd.qt
      rw [Int.ediv_eq_zero_of_lt h1.1 (by omega)]; rfl
    rw [z _ (by omega), z _ (by omega)]
theorem S_small {b : Nat} (hb : b < 4) : 1 ≤ Dd.S b ∧ Dd.S b ≤ 281474976710656 := by
  match b, hb with
  | 0, _ => exact ⟨by decide, by decide⟩
  | 1, _ => exact ⟨by decide, by decide⟩
  | 2, _ => exact ⟨by decide, by decide⟩
  | 3, _ => exact ⟨by decide, by decide⟩
theorem part_at (X : Int) (a b : Nat) (hb : b < 4) : Wd.lmb (part X (4 * a + b)) a + Dd.lmb X (4 * a + b) * Dd.S b = Wd.lmb (part X (4 * a + b + 1)) a ∧
    0 ≤ Wd.lmb (part X (4 * a + b)) a ∧ Wd.lmb (part X (4 * a + b)) a + Dd.lmb X (4 * a + b) * Dd.S b ≤ 18446744073709551615 ∧ 0 ≤ Dd.lmb X (4 * a + b) * Dd.S b := by
  have hs : Dd.lmb X (4 * a + b) * Dd.S (4 * a + b) = (Dd.lmb X (4 * a + b) * Dd.S b) * Wd.S a := by rw [Dd.S_add, SS, Int.mul_assoc, Int.mul_comm (Dd.S b)]
  have h1 := part_range X (4 * a + b)
  have h2 := part_range X (4 * a + b + 1)
  have hSa := Wd.S_pos a
  have hSb := S_small hb
  have hd := Dd.lmb_range X (4 * a + b)
  have hm : 0 ≤ Dd.lmb X (4 * a + b) * Dd.S b := Int.mul_nonneg hd.1 (by omega)
  have e0 : 0 ≤ Wd.qt (part X (4 * a + b)) a := Int.ediv_nonneg h1.1 (Int.le_of_lt hSa)
  have e1 : Wd.qt (part X (4 * a + b + 1)) a = Wd.qt (part X (4 * a + b)) a + Dd.lmb X (4 * a + b) * Dd.S b := by rw [part_succ, hs, Wd.qt_add_mul]
  have e2 : Wd.qt (part X (4 * a + b + 1)) a < 18446744073709551616 := by
    refine Int.ediv_lt_of_lt_mul hSa ?_
    have h3 : Dd.S (4 * a + b + 1) ≤ Dd.S (4 * (a + 1)) := Dd.S_le (by omega)
    rw [SS, Wd.S_succ] at h3
    omega
  unfold Wd.lmb
  rw [e1] at *
  omega
theorem add_S_fits {x : Int} {k K : Nat} (hd : Dd.Dg k x.natAbs) (hk : k ≤ K) (hx : x < 0) : 0 ≤ x + Dd.S K ∧ x + Dd.S K < Dd.S K := by
  have h := Dd.fits_mono hd.1 hk
  unfold Dd.Fits at h; omega

set_option maxRecDepth 100000 in
set_option maxHeartbeats 4000000 in
theorem ref3_Limbs (A : Option Addr) (k c : Nat) (x : Int) (ni : Int) (n : Nat) (hni : ni = n) (w : World) (ha : Nm w A k c x) (hk : k ≤ 40000) (hn : n ≤ 8) :
    Calls Tryd.prog 19 #[.agg #[.int .i64 (sg x), .slice A k c], .int .i64 ni] w fun e w' => (∃ A2 c2, e = .returned (.slice A2 n c2) ∧ Sl w' .u64 A2 n c2 (Wd.lmb x)) ∧ Below w.heap.size w w' := by
  subst hni
  obtain ⟨j0, hj0, hw0, hw1, hw2⟩ := info_parts info_u64g
  have hrx := sign_range x
  have hmaxa := ha.1.max; have hcapa := ha.1.cap
  unfold maxLen at hmaxa
  have HA := Lib.hid ha
  clear ha
  by_cases hneg : x < 0
  · have hsn : sg x < 0 := by unfold sg; rw [Int.sign_eq_neg_one_of_neg hneg]; omega
    obtain ⟨K, hK1, hK2, hK⟩ : ∃ K : Nat, k ≤ K ∧ 4 * n ≤ K ∧ K = max k (4 * n) := ⟨max k (4 * n), by omega, by omega, rfl⟩
    have hKb : K ≤ 40000 := by omega
    obtain ⟨X, hX⟩ : ∃ X, X = x + Dd.S K := ⟨_, rfl⟩
    have hXr := add_S_fits HA.out.2.1 hK1 hneg
    have HXX : Hid (∀ i, i < n → Wd.lmb X i = Wd.lmb x i) := fun i hi => by
      have e : Dd.S K = Dd.S (K - 4 * n) * Wd.S n := by rw [← SS, ← Dd.S_add]; congr 1; omega
      rw [hX, e, Wd.lmb_cong _ _ hi]
    have HX1 : Hid (X.natAbs = X ∧ True) := by refine ⟨?_, trivial⟩; rw [hX]; omega
    have HXE := Lib.hid hX
    have HKE := Lib.hid hK
    clear hX hXr hK
    go_enter Tryd.func19, Tryd.ntmps19
    go_upto_region 4 with (fail)
    have hki : (if (k : Int) < 4 * (n : Int) then 4 * (n : Int) else (k : Int)) = (K : Int) := by have := HKE.out; split <;> omega
    rw [hki]
    have bz0 := ((Below.refl w.heap.size w).alloc (Nat.le_refl _) (.cells #[.int .i64 (sg x), .slice A k c] 26)).alloc (by simp) (.cells #[.int .i64 (sg x), .slice A k c] 26)
    have p1 : ((w.alloc (.cells #[.int .i64 (sg x), .slice A k c] 26)).alloc (.cells #[.int .i64 (sg x), .slice A k c] 26)).cell? ⟨w.heap.size, 0, none⟩ = some (.int .i64 (sg x)) := by simp [go_sem]
    have p2 : ((w.alloc (.cells #[.int .i64 (sg x), .slice A k c] 26)).alloc (.cells #[.int .i64 (sg x), .slice A k c] 26)).cell? ⟨w.heap.size, 1, none⟩ = some (.slice A k c) := by simp [go_sem]
    have p0 : ((w.alloc (.cells #[.int .i64 (sg x), .slice A k c] 26)).alloc (.cells #[.int .i64 (sg x), .slice A k c] 26)).heap[w.heap.size + 1]? = some (.cells #[.int .i64 (sg x), .slice A k c] 26 (0, 0)) := by
      have h := heap_alloc_new (w.alloc (.cells #[.int .i64 (sg x), .slice A k c] 26)) (.cells #[.int .i64 (sg x), .slice A k c] 26)
      simpa using h
    have p3 : w.heap.size + 1 < ((w.alloc (.cells #[.int .i64 (sg x), .slice A k c] 26)).alloc (.cells #[.int .i64 (sg x), .slice A k c] 26)).heap.size := by simp
    generalize ((w.alloc (.cells #[.int .i64 (sg x), .slice A k c] 26)).alloc (.cells #[.int .i64 (sg x), .slice A k c] 26)) = w7 at *
    have pn := Lib.hid (HA.out.below bz0 (Nat.le_refl _))
    have pb := Lib.hid bz0; have P0 := Lib.hid p0; have P1 := Lib.hid p1; have P2 := Lib.hid p2
    clear bz0 p0 hki
    have f5 : ∀ w', Below w7.heap.size w7 w' → w'.cell? ⟨w.heap.size, 0, none⟩ = some (.int .i64 (sg x)) ∧ w'.cell? ⟨w.heap.size, 1, none⟩ = some (.slice A k c) := fun w' hb => ⟨(hb.cell (p := ⟨w.heap.size, 0, none⟩) (Nat.lt_of_succ_lt p3)).trans P1.out, (hb.cell (p := ⟨w.heap.size, 1, none⟩) (Nat.lt_of_succ_lt p3)).trans P2.out⟩
    have F5 := Lib.hid f5; clear f5
    go_region_held3 (fun w' => w'.cell? ⟨w.heap.size, 0, none⟩ = some (.int .i64 (sg x)) ∧ w'.cell? ⟨w.heap.size, 1, none⟩ = some (.slice A k c)) (first | exact ⟨P1.out, P2.out⟩ | exact F5.out _ B8.out | exact F5.out _ B9.out | exact ⟨set2_cell (F5.out _ B9.out).1 (by omega), set2_cell (F5.out _ B9.out).2 (by omega)⟩) (first | (go_at_call 39; refine (ref3_powerI _ K rfl (by omega) _).mono ?_; rintro e w8 ⟨⟨A4, c4, rfl, hn8⟩, hb8⟩; have B8 := Lib.hid (Below.trans (Below.drew (Below.refl w7.heap.size w7)) hb8); have N8 := Lib.hid hn8; have M8 := Lib.hid (pn.out.below B8.out (Nat.le_refl _)); clear hn8 hb8) | (go_at_call 25; refine (ref3_Add A A4 k c (K + 1) c4 x (Dd.S K) _ (by first | exact M8.out | exact nm_draw M8.out) (by first | exact N8.out | exact nm_draw N8.out) (by omega) (by omega)).mono ?_; rintro e w9 ⟨⟨A3, k3, c3, rfl, hk3, hn9⟩, hb9⟩; have B9 := Lib.hid (Below.trans B8.out (Below.mono hb9 B8.out.size)); have N9 := Lib.hid hn9; clear hn9 hb9; have r9 := (B9.out.block (w.heap.size + 1) p3).trans P0.out; have q0 : w9.cell? ⟨w.heap.size + 1, 0, none⟩ = some (.int .i64 (sg x)) := (by simp [World.cell?, r9]); have q1 : w9.cell? ⟨w.heap.size + 1, 1, none⟩ = some (.slice A k c) := (by simp [World.cell?, r9]); have q2 : w9.frozen? ⟨w.heap.size + 1, 0, none⟩ = false := (by simp [World.frozen?, r9]); have q3 : w9.frozen? ⟨w.heap.size + 1, 1, none⟩ = false := (by simp [World.frozen?, r9]); have R9 := Lib.hid r9; clear r9))
    go_upto_region 5 with (fail)
    rw [← HXE.out] at N9 ⊢
    have r1 := heap_setCell_same w9 (w.heap.size + 1) 0 _ _ (.int .i64 (sg X)) R9.out
    have r2 := heap_setCell_same _ (w.heap.size + 1) 1 _ _ (.slice A3 k3 c3) r1
    have nz := ((N9.out.set_ (o := 0) (v := .int .i64 (sg X)) R9.out (by decide)).set_ (o := 1) (v := .slice A3 k3 c3) r1 (by decide))
    have bz := ((pb.out.trans (B9.out.mono pb.out.size)).setCell (p := ⟨w.heap.size + 1, 0, none⟩) (by simp) (.int .i64 (sg X))).setCell (p := ⟨w.heap.size + 1, 1, none⟩) (by simp) (.slice A3 k3 c3)
    have hzs : w.heap.size + 1 < ((w9.setCell ⟨w.heap.size + 1, 0, none⟩ (.int .i64 (sg X))).setCell ⟨w.heap.size + 1, 1, none⟩ (.slice A3 k3 c3)).heap.size := by have := B9.out.size; simp [World.setCell]; omega
    have cz0 : ((w9.setCell ⟨w.heap.size + 1, 0, none⟩ (.int .i64 (sg X))).setCell ⟨w.heap.size + 1, 1, none⟩ (.slice A3 k3 c3)).cell? ⟨w.heap.size + 1, 0, none⟩ = some (.int .i64 (sg X)) := by simp [World.cell?, r2]
    have cz1 : ((w9.setCell ⟨w.heap.size + 1, 0, none⟩ (.int .i64 (sg X))).setCell ⟨w.heap.size + 1, 1, none⟩ (.slice A3 k3 c3)).cell? ⟨w.heap.size + 1, 1, none⟩ = some (.slice A3 k3 c3) := by simp [World.cell?, r2]
    generalize ((w9.setCell ⟨w.heap.size + 1, 0, none⟩ (.int .i64 (sg X))).setCell ⟨w.heap.size + 1, 1, none⟩ (.slice A3 k3 c3)) = wz at *
    have BZ := Lib.hid bz; have NZ := Lib.hid nz
    clear bz nz r1 r2 R9 N9 B9 N8 M8 B8 F5 P0 P1 P2 pn pb
    have CZ0 := Lib.hid cz0; have CZ1 := Lib.hid cz1
    clear cz0
    go_wp2_with (at_make; refine wpList_make_full _ rfl _ _ 30 rfl wz.heap.size 36 j0 (.int .u64 0) 1 Tryd.underlying30 hj0 hw0 hw1 .i64 .i64 (n : Int) (n : Int) n rfl rfl rfl rfl (by rw [hw2]; omega) (by unfold maxLen; omega) (Nat.le_refl _) ?_)
    intro w4 hown hgrow
    have hb4 : Below wz.heap.size wz w4 := (Below.refl _ _).grown hgrow (Nat.le_refl _) (by intro k hk; cases hk)
    have hg4 : wz.heap.size < w4.heap.size := (hown.lt _ rfl).2
    rw [toList_madeCells_one, row_zero .u64 (Wd.lmb 0) n, row_congr (g := Wd.lmb (part X 0)) (by intro i _; simp [upd, part_zero, Wd.lmb_zero])] at hown
    have HO := Lib.hid hown; have HB4 := Lib.hid hb4
    clear hown hb4 hgrow cz1
    go_wp2_with fail
    go_loopw [8] (fun i wr => ∃ j : Nat, j ≤ 4 * n ∧ i = .int .i64 j ∧ wr.ownsRow wz.heap.size 36 1 (.slice (some ⟨wz.heap.size, 0, none⟩) n n) n (row .u64 (Wd.lmb (part X j)) n) ∧ Below wz.heap.size wz wr) (fun i _ => 4 * n - (intOf i).toNat)
    case atStart => exact ⟨0, Nat.zero_le _, rfl, HO.out, HB4.out⟩
    case round =>
      clear HO HB4
      obtain ⟨j, hj, rfl, hown, hbr⟩ := hrel
      by_cases hlt : j < 4 * n
      · obtain ⟨a, b, hb4, hjab, ha⟩ : ∃ a b, b < 4 ∧ j = 4 * a + b ∧ a < n := ⟨j / 4, j % 4, by omega, by omega, by omega⟩
        have d1 : wr.cell? ⟨w.heap.size + 1, 1, none⟩ = some (.slice A3 k3 c3) := (hbr.cell (p := ⟨w.heap.size + 1, 1, none⟩) hzs).trans CZ1.out
        have hnz := NZ.out.below hbr (Nat.le_refl _)
        have c4 : wr.cell? ⟨wz.heap.size, a, none⟩ = some (.int .u64 (Wd.lmb (part X j) a)) := own_cell hown ha
        have c5 : wr.frozen? ⟨wz.heap.size, a, none⟩ = false := World.ownsRow.frozenAt hown a
        have hst := part_at X a b hb4
        rw [← hjab] at hst
        have hdr := Dd.lmb_range X j
        have hSb := S_small hb4
        have HST := Lib.hid hst.1
        obtain ⟨-, s1, s2, s3⟩ := hst
        have hjm : (j : Int) % 4 = (b : Int) := by omega
        have hjd : (j : Int) / 4 = (a : Int) := by omega
        have HJM := Lib.hid hjm; have HJD := Lib.hid hjd; have HJ := Lib.hid hjab
        have HNZ := Lib.hid hnz; have HOW := Lib.hid hown; have HBR := Lib.hid hbr
        clear hjab hjm hjd hnz hown hbr
        go_wp2_with fail
        go_loop [9, 10] (fun u l => ∃ m : Nat, m ≤ b ∧ l = .int .i64 m ∧ u = .int .u64 (Dd.S m)) (fun _ l => b - (intOf l).toNat)
        case atStart => exact ⟨0, Nat.zero_le _, rfl, rfl⟩
        case round =>
          obtain ⟨m, hm, rfl, rfl⟩ := hrel
          by_cases hlt2 : m < b
          · have hSm := S_small (b := m) (by omega)
            have hSn := S_small (b := m + 1) (by omega)
            have hsu := Dd.S_succ m
            have hwm : Dd.S m * 65536 ≤ 281474976710656 := by omega
            have HSU := Lib.hid hsu
            have htst : (m : Int) < (j : Int) % 4 := by have := HJM.out; omega
            clear hsu
            go_wp2_with fail
            go_round
            case rel => exact ⟨m + 1, by omega, by go_num, by rw [HSU.out]⟩
            case measure => simp [intOf]; omega
          · obtain rfl : m = b := by omega
            have htst : ¬ (m : Int) < (j : Int) % 4 := by have := HJM.out; omega
            go_wp2_with fail
            clear htst
            have t1 : ((j : Int) / 4).toNat = a := by have := HJD.out; omega
            have t2 : (0 : Int) ≤ (j : Int) / 4 := by omega
            have t3 : (j : Int) / 4 < (n : Int) := by have := HJD.out; omega
            have t4 : IntKind.u64.wrap (Dd.lmb X j * Dd.S m) = Dd.lmb X j * Dd.S m := IntWalk.u64_in _ (by omega)
            have t5 : IntKind.u64.wrap (Wd.lmb (part X j) a + Dd.lmb X j * Dd.S m) = Wd.lmb (part X j) a + Dd.lmb X j * Dd.S m := IntWalk.u64_in _ (by omega)
            have t6 : IntKind.u64.wrap (Dd.lmb X j) = Dd.lmb X j := IntWalk.u64_in _ (by omega)
            have t7 : IntKind.i64.wrap ((j : Int) / 4) = (j : Int) / 4 := IntWalk.i64_in _ (by omega)
            have sd : Sl wr .i64 A3 k3 c3 (Dd.lmb X) := by have := HNZ.out.1; rw [HX1.out.1] at this; exact this
            have fd : Dd.Fits k3 X := by have := HNZ.out.2.1.1; rw [HX1.out.1] at this; exact this
            have SD := Lib.hid sd; have FD := Lib.hid fd
            clear sd fd
            go_still_tail 14, (by kernel_rfl)
            still_call (calls_flip3 (ref3_digit A3 k3 c3 X j _ SD.out.drew FD.out (by omega)))
            repeat still_step
            refine wpStill_nil ?_
            change wpList _ _ _ _ _ wr.drew
            clear t1 t2 t3 t4 t5 t6 t7
            go_wp2_with fail
            go_roundw
            case rel => exact ⟨j + 1, by omega, by go_num, (own_set HOW.out HST.out (fun i _ hne => by have := part_other X a m i hb4 hne; rw [← HJ.out] at this; exact this)).drew, (HBR.out.setCell (p := ⟨wz.heap.size, a, none⟩) (Nat.le_refl _) _).drew⟩
            case measure => simp [intOf]; omega
      · obtain rfl : j = 4 * n := by omega
        obtain ⟨A9, c9, hv9, hs9⟩ := Sl.of_own hown
        injection hv9 with e1 e2 e3
        subst e1 e3
        have HS9 := Lib.hid (hs9.congr (g := Wd.lmb x) (fun i hi => (part_end X hi).trans (HXX.out i hi))); have HBR := Lib.hid hbr
        clear hown hs9 hbr
        go_wp2_with fail
        go_ret
        exact ⟨⟨_, _, rfl, HS9.out⟩, BZ.out.trans (HBR.out.mono BZ.out.size)⟩
  · have hsn : ¬ sg x < 0 := by
      unfold sg
      rcases (by omega : x = 0 ∨ 0 < x) with h | h
      · subst h; simp
      · rw [Int.sign_eq_one_of_pos h]; omega
    obtain ⟨X, hX⟩ : ∃ X, X = x := ⟨_, rfl⟩
    have HXX : Hid (∀ i, i < n → Wd.lmb X i = Wd.lmb x i) := fun i _ => by rw [hX]
    go_enter Tryd.func19, Tryd.ntmps19
    go_upto_region 5 with (fail)
    have bz := ((Below.refl w.heap.size w).alloc (Nat.le_refl _) (.cells #[.int .i64 (sg x), .slice A k c] 26)).alloc (by simp) (.cells #[.int .i64 (sg x), .slice A k c] 26)
    have cz0 : ((w.alloc (.cells #[.int .i64 (sg x), .slice A k c] 26)).alloc (.cells #[.int .i64 (sg x), .slice A k c] 26)).cell? ⟨w.heap.size + 1, 0, none⟩ = some (.int .i64 (sg x)) := by simp [go_sem]
    have cz1 : ((w.alloc (.cells #[.int .i64 (sg x), .slice A k c] 26)).alloc (.cells #[.int .i64 (sg x), .slice A k c] 26)).cell? ⟨w.heap.size + 1, 1, none⟩ = some (.slice A k c) := by simp [go_sem]
    have hzs : w.heap.size + 1 < ((w.alloc (.cells #[.int .i64 (sg x), .slice A k c] 26)).alloc (.cells #[.int .i64 (sg x), .slice A k c] 26)).heap.size := by simp
    generalize ((w.alloc (.cells #[.int .i64 (sg x), .slice A k c] 26)).alloc (.cells #[.int .i64 (sg x), .slice A k c] 26)) = wz at *
    have BZ := Lib.hid bz
    have NZ := Lib.hid (HA.out.below bz (Nat.le_refl _))
    obtain ⟨A3, k3, c3, hA3, hk3, hc3⟩ : ∃ A3 k3 c3, A3 = A ∧ k3 = k ∧ c3 = c := ⟨_, _, _, rfl, rfl, rfl⟩
    have HX1 : Hid (X.natAbs = X ∧ True) := by rw [hX]; exact ⟨by omega, trivial⟩
    rw [← hA3, ← hk3, ← hc3] at cz1
    rw [← hA3, ← hk3, ← hc3, ← hX] at NZ
    clear bz hA3 hk3 hc3 hX hsn
    have CZ0 := Lib.hid cz0; have CZ1 := Lib.hid cz1
    clear cz0
    go_wp2_with (at_make; refine wpList_make_full _ rfl _ _ 30 rfl wz.heap.size 36 j0 (.int .u64 0) 1 Tryd.underlying30 hj0 hw0 hw1 .i64 .i64 (n : Int) (n : Int) n rfl rfl rfl rfl (by rw [hw2]; omega) (by unfold maxLen; omega) (Nat.le_refl _) ?_)
    intro w4 hown hgrow
    have hb4 : Below wz.heap.size wz w4 := (Below.refl _ _).grown hgrow (Nat.le_refl _) (by intro k hk; cases hk)
    have hg4 : wz.heap.size < w4.heap.size := (hown.lt _ rfl).2
    rw [toList_madeCells_one, row_zero .u64 (Wd.lmb 0) n, row_congr (g := Wd.lmb (part X 0)) (by intro i _; simp [upd, part_zero, Wd.lmb_zero])] at hown
    have HO := Lib.hid hown; have HB4 := Lib.hid hb4
    clear hown hb4 hgrow cz1
    go_wp2_with fail
    go_loopw [8] (fun i wr => ∃ j : Nat, j ≤ 4 * n ∧ i = .int .i64 j ∧ wr.ownsRow wz.heap.size 36 1 (.slice (some ⟨wz.heap.size, 0, none⟩) n n) n (row .u64 (Wd.lmb (part X j)) n) ∧ Below wz.heap.size wz wr) (fun i _ => 4 * n - (intOf i).toNat)
    case atStart => exact ⟨0, Nat.zero_le _, rfl, HO.out, HB4.out⟩
    case round =>
      clear HO HB4
      obtain ⟨j, hj, rfl, hown, hbr⟩ := hrel
      by_cases hlt : j < 4 * n
      · obtain ⟨a, b, hb4, hjab, ha⟩ : ∃ a b, b < 4 ∧ j = 4 * a + b ∧ a < n := ⟨j / 4, j % 4, by omega, by omega, by omega⟩
        have d1 : wr.cell? ⟨w.heap.size + 1, 1, none⟩ = some (.slice A3 k3 c3) := (hbr.cell (p := ⟨w.heap.size + 1, 1, none⟩) hzs).trans CZ1.out
        have hnz := NZ.out.below hbr (Nat.le_refl _)
        have c4 : wr.cell? ⟨wz.heap.size, a, none⟩ = some (.int .u64 (Wd.lmb (part X j) a)) := own_cell hown ha
        have c5 : wr.frozen? ⟨wz.heap.size, a, none⟩ = false := World.ownsRow.frozenAt hown a
        have hst := part_at X a b hb4
        rw [← hjab] at hst
        have hdr := Dd.lmb_range X j
        have hSb := S_small hb4
        have HST := Lib.hid hst.1
        obtain ⟨-, s1, s2, s3⟩ := hst
        have hjm : (j : Int) % 4 = (b : Int) := by omega
        have hjd : (j : Int) / 4 = (a : Int) := by omega
        have HJM := Lib.hid hjm; have HJD := Lib.hid hjd; have HJ := Lib.hid hjab
        have HNZ := Lib.hid hnz; have HOW := Lib.hid hown; have HBR := Lib.hid hbr
        clear hjab hjm hjd hnz hown hbr
        go_wp2_with fail
        go_loop [9, 10] (fun u l => ∃ m : Nat, m ≤ b ∧ l = .int .i64 m ∧ u = .int .u64 (Dd.S m)) (fun _ l => b - (intOf l).toNat)
        case atStart => exact ⟨0, Nat.zero_le _, rfl, rfl⟩
        case round =>
          obtain ⟨m, hm, rfl, rfl⟩ := hrel
          by_cases hlt2 : m < b
          · have hSm := S_small (b := m) (by omega)
            have hSn := S_small (b := m + 1) (by omega)
            have hsu := Dd.S_succ m
            have hwm : Dd.S m * 65536 ≤ 281474976710656 := by omega
            have HSU := Lib.hid hsu
            have htst : (m : Int) < (j : Int) % 4 := by have := HJM.out; omega
            clear hsu
            go_wp2_with fail
            go_round
            case rel => exact ⟨m + 1, by omega, by go_num, by rw [HSU.out]⟩
            case measure => simp [intOf]; omega
          · obtain rfl : m = b := by omega
            have htst : ¬ (m : Int) < (j : Int) % 4 := by have := HJM.out; omega
            go_wp2_with fail
            clear htst
            have t1 : ((j : Int) / 4).toNat = a := by have := HJD.out; omega
            have t2 : (0 : Int) ≤ (j : Int) / 4 := by omega
            have t3 : (j : Int) / 4 < (n : Int) := by have := HJD.out; omega
            have t4 : IntKind.u64.wrap (Dd.lmb X j * Dd.S m) = Dd.lmb X j * Dd.S m := IntWalk.u64_in _ (by omega)
            have t5 : IntKind.u64.wrap (Wd.lmb (part X j) a + Dd.lmb X j * Dd.S m) = Wd.lmb (part X j) a + Dd.lmb X j * Dd.S m := IntWalk.u64_in _ (by omega)
            have t6 : IntKind.u64.wrap (Dd.lmb X j) = Dd.lmb X j := IntWalk.u64_in _ (by omega)
            have t7 : IntKind.i64.wrap ((j : Int) / 4) = (j : Int) / 4 := IntWalk.i64_in _ (by omega)
            have sd : Sl wr .i64 A3 k3 c3 (Dd.lmb X) := by have := HNZ.out.1; rw [HX1.out.1] at this; exact this
            have fd : Dd.Fits k3 X := by have := HNZ.out.2.1.1; rw [HX1.out.1] at this; exact this
            have SD := Lib.hid sd; have FD := Lib.hid fd
            clear sd fd
            go_still_tail 14, (by kernel_rfl)
            still_call (calls_flip3 (ref3_digit A3 k3 c3 X j _ SD.out.drew FD.out (by omega)))
            repeat still_step
            refine wpStill_nil ?_
            change wpList _ _ _ _ _ wr.drew
            clear t1 t2 t3 t4 t5 t6 t7
            go_wp2_with fail
            go_roundw
            case rel => exact ⟨j + 1, by omega, by go_num, (own_set HOW.out HST.out (fun i _ hne => by have := part_other X a m i hb4 hne; rw [← HJ.out] at this; exact this)).drew, (HBR.out.setCell (p := ⟨wz.heap.size, a, none⟩) (Nat.le_refl _) _).drew⟩
            case measure => simp [intOf]; omega
      · obtain rfl : j = 4 * n := by omega
        obtain ⟨A9, c9, hv9, hs9⟩ := Sl.of_own hown
        injection hv9 with e1 e2 e3
        subst e1 e3
        have HS9 := Lib.hid (hs9.congr (g := Wd.lmb x) (fun i hi => (part_end X hi).trans (HXX.out i hi))); have HBR := Lib.hid hbr
        clear hown hs9 hbr
        go_wp2_with fail
        go_ret
        exact ⟨⟨_, _, rfl, HS9.out⟩, BZ.out.trans (HBR.out.mono BZ.out.size)⟩
end Go.Proofs.YtfjanlfbnliokaaDoor
