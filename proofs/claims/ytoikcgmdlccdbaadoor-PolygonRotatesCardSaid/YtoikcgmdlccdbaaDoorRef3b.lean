/- Contracts of the reference's sums and differences of magnitudes (geofenceref03.addDigits, subDigits). -/
import Derived.Test.YtoikcgmdlccdbaaDoorRef3a
namespace Go.Proofs.YtoikcgmdlccdbaaDoor
set_option linter.unusedVariables false
set_option linter.unusedSimpArgs false
open Go.RowKit

theorem info_int : (Tryd.prog.info? 3).map (fun i => (i.zero, i.size, i.bytes)) = some (some (.int .i64 0), 1, 8) := by kernel_rfl
theorem dd_add_step (x y : Int) (i : Nat) : (Dd.lmb x i + Dd.lmb y i + Dd.car x y i) % 65536 = Dd.lmb (x + y) i ∧ (Dd.lmb x i + Dd.lmb y i + Dd.car x y i) / 65536 = Dd.car x y (i + 1) := by
  have h := Dd.add_step x y i
  have hc := Dd.car_le x y i
  rw [show Dd.car x y i % 2 = Dd.car x y i from by omega] at h
  exact h
theorem car_end {n m : Nat} {p q : Int} (hp : Dd.Fits n p) (hq : Dd.Fits m q) {k : Nat} (hk : max n m < k) : Dd.car p q k = 0 := by
  have h1 := Dd.fits_mono hp (show n ≤ max n m by omega)
  have h2 := Dd.fits_mono hq (show m ≤ max n m by omega)
  have h3 : Dd.Fits (max n m + 1) (p + q) := by unfold Dd.Fits at *; rw [Dd.S_succ]; omega
  have h4 := Dd.fits_mono h3 (show max n m + 1 ≤ k by omega)
  have h5 := Dd.fits_mono h1 (show max n m ≤ k by omega)
  have h6 := Dd.fits_mono h2 (show max n m ≤ k by omega)
  unfold Dd.car Dd.qt
  rw [Int.ediv_eq_zero_of_lt h4.1 h4.2, Int.ediv_eq_zero_of_lt h5.1 h5.2, Int.ediv_eq_zero_of_lt h6.1 h6.2]; rfl
theorem fits_sum {n m : Nat} {p q : Int} (hp : Dd.Fits n p) (hq : Dd.Fits m q) {k : Nat} (hn : n ≤ k) (hm : m ≤ k) (hc : Dd.car p q k = 0) : Dd.Fits k (p + q) := by
  have h5 := Dd.fits_mono hp hn
  have h6 := Dd.fits_mono hq hm
  have hS := Dd.S_pos k
  unfold Dd.car Dd.qt at hc
  rw [Int.ediv_eq_zero_of_lt h5.1 h5.2, Int.ediv_eq_zero_of_lt h6.1 h6.2] at hc
  unfold Dd.Fits at *
  have := Int.lt_ediv_add_one_mul_self (p + q) hS
  rw [show (p + q) / Dd.S k = 0 from by omega] at this
  omega

set_option maxHeartbeats 1000000 in
theorem ref3_addDigits (A A' : Option Addr) (n c m c' : Nat) (p q : Int) (w : World) (ha : Sl w .i64 A n c (Dd.lmb p)) (hp : Dd.Fits n p) (hb : Sl w .i64 A' m c' (Dd.lmb q)) (hq : Dd.Fits m q) (hn : n ≤ 100000) (hm : m ≤ 100000) :
    Calls Tryd.prog 100 #[.slice A n c, .slice A' m c'] w fun e w' => (∃ A2 k c2, e = .returned (.slice A2 k c2) ∧ k ≤ max n m + 1 ∧ Sl w' .i64 A2 k c2 (Dd.lmb (p + q)) ∧ Dd.Fits k (p + q) ∧ Ty w' A2) ∧ Below w.heap.size w w' := by
  obtain ⟨i0, hi0, hz0, hz1, hz2⟩ := info_parts info_int
  have HA := Lib.hid ha; have HP := Lib.hid hp; have HB := Lib.hid hb; have HQ := Lib.hid hq
  clear ha hp hb hq
  go_enter Tryd.func100, Tryd.ntmps100
  go_wp2_with fail
  go_loopw [5, 6, 7] (fun v cr i wr => ∃ k : Nat, k ≤ max n m + 1 ∧ i = .int .i64 k ∧ cr = .int .i64 (Dd.car p q k) ∧ wr.ownsRow w.heap.size 3 1 v k (row .i64 (Dd.lmb (p + q)) k) ∧ Below w.heap.size w wr)
    (fun _ _ i _ => max n m + 1 - (intOf i).toNat)
  case atStart => exact ⟨0, Nat.zero_le _, rfl, by rw [Dd.car_zero], World.ownsRow_nil _ _ _ _, Below.refl _ _⟩
  case round =>
    obtain ⟨k, hk, rfl, rfl, hown, hbr⟩ := hrel
    have hcb := Dd.car_le p q k
    have hce : max n m < k → Dd.car p q k = 0 := fun h => car_end HP.out HQ.out h
    by_cases hgo : k < n ∨ k < m ∨ 0 < Dd.car p q k
    · have hkb : k ≤ max n m := by
        rcases (by omega : k ≤ max n m ∨ max n m < k) with h | h
        · exact h
        · have := hce h; omega
      have hst := dd_add_step p q k
      have r1 := Dd.lmb_range p k; have r2 := Dd.lmb_range q k
      have ha' := HA.out.below hbr (Nat.le_refl _); have hb' := HB.out.below hbr (Nat.le_refl _)
      have HA' := Lib.hid ha'; have HB' := Lib.hid hb'; have HST := Lib.hid hst
      have HOW := Lib.hid hown; have HBR := Lib.hid hbr
      clear hown hbr ha' hb' hst hce
      rcases (by omega : k < n ∨ (¬ k < n ∧ k < m) ∨ (¬ k < n ∧ ¬ k < m ∧ 0 < Dd.car p q k)) with h | h | h
      all_goals
        clear hgo
        go_wp2_with fail
        refine (ref3_digit A n c p k _ HA'.out HP.out (by omega)).mono ?_
        rintro e w1 ⟨rfl, rfl⟩
        go_wp2_with fail
        refine (ref3_digit A' m c' q k _ HB'.out HQ.out (by omega)).mono ?_
        rintro e w1 ⟨rfl, rfl⟩
        go_wp2_with (at_builtin; refine wpList_append_own _ rfl _ _ 95 rfl w.heap.size 3 i0 (.int .i64 0) 1 8 Tryd.underlying95 hi0 hz0 hz1 hz2 rfl (by decide) _ _ _ rfl (HOW.out.alloc _) ⟨wr.heap.size, 0, none⟩ 1 1 [.int .i64 ((Dd.lmb p k + Dd.lmb q k + Dd.car p q k) % 65536)] rfl rfl (cells_one_new _ _ _) (one_oneCell _ _) (by unfold maxLen; omega) (by omega) (by have := HBR.out.size; simp; omega) ?_)
        intro v' w2 hown2 hgrow _
        have hb3 : Below w.heap.size w w2 := (HBR.out.alloc HBR.out.size _).grown hgrow (by have := HBR.out.size; simp; omega) (own_block_le HOW.out)
        have hown3 := own_push hown2 HST.out.1
        have H3 := Lib.hid hown3; have B3 := Lib.hid hb3
        clear hown2 hgrow hb3 hown3
        go_wp2_with fail
        go_roundw
        case rel => exact ⟨k + 1, by omega, by go_num, by rw [← HST.out.2], H3.out, B3.out⟩
        case measure => simp [intOf]; omega
    · have hc0 : Dd.car p q k = 0 := by omega
      have hf := fits_sum HP.out HQ.out (k := k) (by omega) (by omega) hc0
      have h1 : ¬ k < n := by omega
      have h2 : ¬ k < m := by omega
      have h3 : ¬ 0 < Dd.car p q k := by omega
      obtain ⟨A2, c2, rfl, hsl⟩ := Sl.of_own hown
      have HTY := Lib.hid (Ty.of_own hown); have HF := Lib.hid hf; have HS := Lib.hid hsl; have HBR := Lib.hid hbr
      clear hown hbr hsl hf hc0 hce hgo hcb
      go_wp2_with fail
      go_ret
      exact ⟨⟨A2, k, c2, rfl, hk, HS.out, HF.out, HTY.out⟩, HBR.out⟩

theorem calls_flip3 {P : Program} {f : FuncId} {args : Array Value} {w : World} {v : Value} (h : Calls P f args w fun e w' => e = .returned v ∧ w = w') : Calls P f args w fun e w' => e = .returned v ∧ w' = w :=
  h.mono fun _ _ ⟨he, hw⟩ => ⟨he, hw.symm⟩
theorem sl_drewN {w : World} {k : IntKind} {A : Option Addr} {n c : Nat} {f : Nat → Int} (h : Sl w k A n c f) (m : Nat) : Sl (w.drewN m) k A n c f :=
  h.below (⟨rfl, rfl, rfl, Nat.le_refl _, fun _ _ => rfl⟩ : Below w.heap.size w (w.drewN m)) (Nat.le_refl _)
theorem own_drewN {w : World} {base size n : Nat} {e : TypeId} {v : Value} {xs : List Value} (h : w.ownsRow base e size v n xs) (m : Nat) : (w.drewN m).ownsRow base e size v n xs := h
theorem dd_sub_step (x y : Int) (i : Nat) : (Dd.lmb x i - Dd.lmb y i - Dd.brw x y i < 0 → Dd.lmb x i - Dd.lmb y i - Dd.brw x y i + 65536 = Dd.lmb (x - y) i ∧ Dd.brw x y (i + 1) = 1) ∧
    (¬ Dd.lmb x i - Dd.lmb y i - Dd.brw x y i < 0 → Dd.lmb x i - Dd.lmb y i - Dd.brw x y i = Dd.lmb (x - y) i ∧ Dd.brw x y (i + 1) = 0) := by
  have h := Dd.sub_step x y i
  have hc := Dd.brw_le x y i
  have r1 := Dd.lmb_range x i; have r2 := Dd.lmb_range y i
  rw [show Dd.brw x y i % 2 = Dd.brw x y i from by omega] at h
  rw [← h.1, ← h.2]
  unfold Dd.lo Dd.bor
  constructor
  · intro hs
    rw [if_pos (by omega)]
    omega
  · intro hs
    rw [if_neg (by omega)]
    omega

set_option maxHeartbeats 1000000 in
theorem ref3_subDigits (A A' : Option Addr) (n c m c' : Nat) (p q : Int) (w : World) (ha : Sl w .i64 A n c (Dd.lmb p)) (hp : Dd.Fits n p) (hb : Sl w .i64 A' m c' (Dd.lmb q)) (hq : Dd.Fits m q) (hn : n ≤ 100000) (hm : m ≤ 100000) (hle : q ≤ p) :
    Calls Tryd.prog 102 #[.slice A n c, .slice A' m c'] w fun e w' => (∃ A2 c2, e = .returned (.slice A2 n c2) ∧ Sl w' .i64 A2 n c2 (Dd.lmb (p - q)) ∧ Dd.Fits n (p - q) ∧ Ty w' A2) ∧ Below w.heap.size w w' := by
  obtain ⟨i0, hi0, hz0, hz1, hz2⟩ := info_parts info_int
  have hmax := ha.max; have hcap := ha.cap; unfold maxLen at hmax
  have hfin : Dd.Fits n (p - q) := by unfold Dd.Fits at *; omega
  have HA := Lib.hid ha; have HP := Lib.hid hp; have HB := Lib.hid hb; have HQ := Lib.hid hq; have HF := Lib.hid hfin
  clear ha hp hb hq hfin hle
  go_enter Tryd.func102, Tryd.ntmps102
  go_wp2_with fail
  go_loopw [5, 6, 7] (fun v br i wr => ∃ k : Nat, k ≤ n ∧ i = .int .i64 k ∧ br = .int .i64 (Dd.brw p q k) ∧ wr.ownsRow w.heap.size 3 1 v k (row .i64 (Dd.lmb (p - q)) k) ∧ Below w.heap.size w wr)
    (fun _ _ i _ => n - (intOf i).toNat)
  case atStart => exact ⟨0, Nat.zero_le _, rfl, by rw [Dd.brw_zero], World.ownsRow_nil _ _ _ _, Below.refl _ _⟩
  case round =>
    obtain ⟨k, hk, rfl, rfl, hown, hbr⟩ := hrel
    have hcb := Dd.brw_le p q k
    by_cases hlt : k < n
    · have hst := dd_sub_step p q k
      have r1 := Dd.lmb_range p k; have r2 := Dd.lmb_range q k
      have ha' := HA.out.below hbr (Nat.le_refl _); have hb' := HB.out.below hbr (Nat.le_refl _)
      obtain ⟨b, off, rfl, hblt, hc⟩ := ha'.at_ (by omega)
      have c1 := hc k hlt
      have HB' := Lib.hid hb'; have HST := Lib.hid hst
      have HOW := Lib.hid hown; have HBR := Lib.hid hbr
      clear hown hbr ha' hb' hst hc
      go_wp2_with fail
      go_quiet ((go_at_call 117; exact Calls.quiet_of_same (calls_flip3 (ref3_digit A' m c' q k _ (sl_drewN HB'.out _) HQ.out (by omega)))))
      obtain ⟨w5, hw5⟩ : ∃ w5, w5 = wr.drewN nq := ⟨_, rfl⟩
      rw [← hw5]
      have how5 := own_drewN HOW.out nq
      rw [← hw5] at how5
      have hbr5 : Below w.heap.size w w5 := by rw [hw5]; exact ⟨HBR.out.os, HBR.out.tape, HBR.out.output, HBR.out.size, HBR.out.block⟩
      have HOW5 := Lib.hid how5; have HBR5 := Lib.hid hbr5
      clear hw5 how5 hbr5 c1 HBR HOW HB'
      by_cases hneg : Dd.lmb p k - Dd.lmb q k - Dd.brw p q k < 0
      · obtain ⟨e1, e2⟩ := HST.out.1 (by omega)
        have E1 := Lib.hid e1; have E2 := Lib.hid e2; clear e1 e2
        go_wp2_with (at_builtin; refine wpList_append_own _ rfl _ _ 95 rfl w.heap.size 3 i0 (.int .i64 0) 1 8 Tryd.underlying95 hi0 hz0 hz1 hz2 rfl (by decide) _ _ _ rfl (HOW5.out.alloc _) ⟨w5.heap.size, 0, none⟩ 1 1 [.int .i64 (Dd.lmb p k - Dd.lmb q k - Dd.brw p q k + 65536)] rfl rfl (cells_one_new _ _ _) (one_oneCell _ _) (by unfold maxLen; omega) (by omega) (by have := HBR5.out.size; simp; omega) ?_)
        intro v' w2 hown2 hgrow _
        have hb3 : Below w.heap.size w w2 := (HBR5.out.alloc HBR5.out.size _).grown hgrow (by have := HBR5.out.size; simp; omega) (own_block_le HOW5.out)
        have H3 := Lib.hid (own_push hown2 E1.out); have B3 := Lib.hid hb3
        clear hown2 hgrow hb3
        go_wp2_with fail
        go_roundw
        case rel => exact ⟨k + 1, by omega, by go_num, by rw [E2.out], H3.out, B3.out⟩
        case measure => simp [intOf]; omega
      · obtain ⟨e1, e2⟩ := HST.out.2 (by omega)
        have E1 := Lib.hid e1; have E2 := Lib.hid e2; clear e1 e2
        go_wp2_with (at_builtin; refine wpList_append_own _ rfl _ _ 95 rfl w.heap.size 3 i0 (.int .i64 0) 1 8 Tryd.underlying95 hi0 hz0 hz1 hz2 rfl (by decide) _ _ _ rfl (HOW5.out.alloc _) ⟨w5.heap.size, 0, none⟩ 1 1 [.int .i64 (Dd.lmb p k - Dd.lmb q k - Dd.brw p q k)] rfl rfl (cells_one_new _ _ _) (one_oneCell _ _) (by unfold maxLen; omega) (by omega) (by have := HBR5.out.size; simp; omega) ?_)
        intro v' w2 hown2 hgrow _
        have hb3 : Below w.heap.size w w2 := (HBR5.out.alloc HBR5.out.size _).grown hgrow (by have := HBR5.out.size; simp; omega) (own_block_le HOW5.out)
        have H3 := Lib.hid (own_push hown2 E1.out); have B3 := Lib.hid hb3
        clear hown2 hgrow hb3
        go_wp2_with fail
        go_roundw
        case rel => exact ⟨k + 1, by omega, by go_num, by rw [E2.out], H3.out, B3.out⟩
        case measure => simp [intOf]; omega
    · obtain rfl : k = n := by omega
      obtain ⟨A2, c2, rfl, hsl⟩ := Sl.of_own hown
      have HTY := Lib.hid (Ty.of_own hown); have HS := Lib.hid hsl; have HBR := Lib.hid hbr
      clear hown hbr hsl hcb
      go_wp2_with fail
      go_ret
      exact ⟨⟨A2, c2, rfl, HS.out, HF.out, HTY.out⟩, HBR.out⟩
end Go.Proofs.YtoikcgmdlccdbaaDoor
