/- The contract of the reference's product (geofenceref03.Mul). -/
import Derived.Test.YtoikcgmdlccdbaaDoorRef3c
namespace Go.Proofs.YtoikcgmdlccdbaaDoor
set_option linter.unusedVariables false
set_option linter.unusedSimpArgs false
open Go.RowKit

namespace Dd
theorem mulSS (i : Nat) : 0 ≤ S i := Int.le_of_lt (S_pos i)
theorem fits_prt {k m : Nat} {p q : Int} (hp : 0 ≤ p) (hq : Fits m q) : Fits (k + m) (prt p q k) := by
  have h1 := S_pos k
  have e : p - qt p k * S k = p % S k := by
    have := Int.mul_ediv_add_emod p (S k)
    unfold qt; rw [Int.mul_comm]; omega
  have h2 := Int.emod_nonneg p (Int.ne_of_gt h1)
  have h3 := Int.emod_lt_of_pos p h1
  unfold Fits at *
  unfold prt
  rw [e, S_add]
  refine ⟨Int.mul_nonneg h2 hq.1, ?_⟩
  have h4 : p % S k * q ≤ S k * q := Int.mul_le_mul_of_nonneg_right (Int.le_of_lt h3) hq.1
  have h5 : S k * q < S k * S m := Int.mul_lt_mul_of_pos_left hq.2 h1
  omega
theorem prt_whole {n : Nat} {p q : Int} (hp : Fits n p) : prt p q n = p * q := by
  unfold prt qt
  rw [Int.ediv_eq_zero_of_lt hp.1 hp.2, Int.zero_mul, Int.sub_zero]
theorem kar_last {k m : Nat} {p q : Int} (hp : 0 ≤ p) (hq : Fits m q) : kar p q k m = lmb (prt p q (k + 1)) (k + m) := by
  have h1 := fits_prt (k := k) hp hq
  have h2 := fits_prt (k := k + 1) hp hq
  rw [show k + 1 + m = k + m + 1 from by omega] at h2
  have h3 := S_pos (k + m)
  unfold Fits at h2
  rw [S_succ] at h2
  have e3 : 0 ≤ qt (prt p q (k + 1)) (k + m) ∧ qt (prt p q (k + 1)) (k + m) < 65536 := ⟨Int.ediv_nonneg h2.1 (Int.le_of_lt h3), Int.ediv_lt_of_lt_mul h3 (by omega)⟩
  have e1 : qt (prt p q k) (k + m) = 0 := Int.ediv_eq_zero_of_lt h1.1 h1.2
  have e2 : qt q m = 0 := Int.ediv_eq_zero_of_lt hq.1 hq.2
  unfold kar lmb
  rw [e1, e2, Int.mul_zero]
  omega
def mid (x y : Int) (i j : Nat) : Nat → Int := fun k => if k < i + j then lmb (prt x y (i + 1)) k else lmb (prt x y i) k
theorem mid_zero (x y : Int) (i k : Nat) : lmb (prt x y i) k = mid x y i 0 k := by
  unfold mid; split
  · rw [prt_low x y (by omega)]
  · rfl
theorem mid_at (x y : Int) (i j : Nat) : mid x y i j (i + j) = lmb (prt x y i) (i + j) := by unfold mid; rw [if_neg (by omega)]
theorem mid_next (x y : Int) (i j : Nat) : lmb (prt x y (i + 1)) (i + j) = mid x y i (j + 1) (i + j) := by unfold mid; rw [if_pos (by omega)]
theorem mid_other (x y : Int) (i j k : Nat) (h : k ≠ i + j) : mid x y i j k = mid x y i (j + 1) k := by
  unfold mid
  by_cases h1 : k < i + j
  · rw [if_pos h1, if_pos (by omega)]
  · rw [if_neg h1, if_neg (by omega)]
theorem mid_rest {p q : Int} {i m k : Nat} (hp : 0 ≤ p) (hq : Fits m q) (h : k ≠ i + m) : mid p q i m k = lmb (prt p q (i + 1)) k := by
  unfold mid
  by_cases h1 : k < i + m
  · rw [if_pos h1]
  · rw [if_neg h1, lmb_beyond (fits_prt (k := i) hp hq) (by omega), lmb_beyond (fits_prt (k := i + 1) hp hq) (by omega)]
theorem kar_step2 (x y : Int) (i j : Nat) : (lmb (prt x y i) (i + j) + lmb x i * lmb y j + kar x y i j) % 65536 = lmb (prt x y (i + 1)) (i + j) ∧
    (lmb (prt x y i) (i + j) + lmb x i * lmb y j + kar x y i j) / 65536 = kar x y i (j + 1) := by
  have hk := isW_kar x y i j
  have h := kar_step x y i j hk
  have hp := isW_lt_mul (isW_lmb x i) (isW_lmb y j)
  have h1 := lmb_range (prt x y i) (i + j)
  have hk2 := h.2.2
  rw [Int.add_comm (lmb (prt x y i) (i + j))]
  refine ⟨h.1, ?_⟩
  have h2 := h.2.1
  unfold hi at h2
  unfold IsW at hk
  generalize lmb x i * lmb y j = u at *
  omega
end Dd

theorem below_drewN9 {B : Nat} {a w : World} (h : Below B a w) (n : Nat) : Below B a (w.drewN n) := ⟨h.os, h.tape, h.output, h.size, h.block⟩
theorem sg_mul (x y : Int) : sg x * sg y = sg (x * y) := by unfold sg; rw [Int.sign_mul]

set_option maxRecDepth 100000 in
set_option maxHeartbeats 4000000 in
theorem ref3_Mul (A A' : Option Addr) (n c m c' : Nat) (x y : Int) (w : World) (ha : Nm w A n c x) (hb : Nm w A' m c' y) (hn : n ≤ 50000) (hm : m ≤ 49999) :
    Calls Tryd.prog 96 #[.agg #[.int .i64 (sg x), .slice A n c], .agg #[.int .i64 (sg y), .slice A' m c']] w fun e w' => (∃ A2 k c2, e = .returned (.agg #[.int .i64 (sg (x * y)), .slice A2 k c2]) ∧ k ≤ n + m ∧ Nm w' A2 k c2 (x * y)) ∧ Below w.heap.size w w' := by
  obtain ⟨i0, hi0, hz0, hz1, hz2⟩ := info_parts info_int
  have hrx := sign_range x; have hry := sign_range y
  have hsm := sg_mul x y
  have hrs := sign_range (x * y)
  rw [← hsm] at hrs
  have HSM := Lib.hid hsm
  have HA := Lib.hid ha; have HB := Lib.hid hb
  have hb3 : ∀ (o1 o2 o3 : Obj), Below w.heap.size w (((w.alloc o1).alloc o2).alloc o3) := fun o1 o2 o3 => (((Below.refl w.heap.size w).alloc (Nat.le_refl _) _).alloc (by simp) _).alloc (by simp; omega) _
  have HB3 := Lib.hid hb3
  have hnm : ((x * y).natAbs : Int) = (x.natAbs : Int) * y.natAbs := by rw [Int.natAbs_mul]; exact Int.natCast_mul _ _
  obtain ⟨p, hp⟩ : ∃ p : Int, p = x.natAbs := ⟨_, rfl⟩
  obtain ⟨q, hq⟩ : ∃ q : Int, q = y.natAbs := ⟨_, rfl⟩
  have hfp : Dd.Dg n p := by rw [hp]; exact ha.2.1
  have hfq : Dd.Dg m q := by rw [hq]; exact hb.2.1
  rw [← hp, ← hq] at hnm
  have hmaxa := ha.1.max; have hmaxb := hb.1.max; have hcapa := ha.1.cap; have hcapb := hb.1.cap
  unfold maxLen at hmaxa hmaxb
  have HP := Lib.hid hp; have HQ := Lib.hid hq; have HNM := Lib.hid hnm; have HFP := Lib.hid hfp; have HFQ := Lib.hid hfq
  clear ha hb hb3 hsm hp hq hnm hfp hfq
  go_enter Tryd.func96, Tryd.ntmps96
  go_wp2_with fail
  have bx := Box.new w (.int .i64 (sg x)) (.slice A n c) (.int .i64 (sg y)) (.slice A' m c')
  have hbw := HB3.out (.cells #[.int .i64 (sg x), .slice A n c] 97) (.cells #[.int .i64 (sg y), .slice A' m c'] 97) (.cells #[.int .i64 0, .slice none 0 0] 97)
  generalize (((w.alloc (.cells #[.int .i64 (sg x), .slice A n c] 97)).alloc (.cells #[.int .i64 (sg y), .slice A' m c'] 97)).alloc (.cells #[.int .i64 0, .slice none 0 0] 97)) = w3 at *
  have BX := Lib.hid bx; have BW := Lib.hid hbw
  have NA := Lib.hid (HA.out.below hbw (Nat.le_refl _)); have NB := Lib.hid (HB.out.below hbw (Nat.le_refl _))
  clear bx hbw HA HB
  go_loopw [5, 6] (fun v i wr => ∃ k : Nat, k ≤ n + m ∧ i = .int .i64 k ∧ wr.ownsRow w3.heap.size 3 1 v k (row .i64 (Dd.lmb 0) k) ∧ Below w3.heap.size w3 wr) (fun _ i _ => n + m - (intOf i).toNat)
  case atStart => exact ⟨0, Nat.zero_le _, rfl, World.ownsRow_nil _ _ _ _, Below.refl _ _⟩
  case round =>
    obtain ⟨k, hk, rfl, hown, hbr⟩ := hrel
    have bxr := BX.out.below hbr (Nat.le_refl _)
    have c1 := bxr.c1; have d1 := bxr.d1
    have HOW := Lib.hid hown; have HBR := Lib.hid hbr
    clear hown hbr bxr
    by_cases hlt : k < n + m
    · go_wp2_with (at_builtin; refine wpList_append_own _ rfl _ _ 95 rfl w3.heap.size 3 i0 (.int .i64 0) 1 8 Tryd.underlying95 hi0 hz0 hz1 hz2 rfl (by decide) _ _ _ rfl (HOW.out.alloc _) ⟨wr.heap.size, 0, none⟩ 1 1 [.int .i64 0] rfl rfl (cells_one_new _ _ _) (one_oneCell _ _) (by unfold maxLen; omega) (by omega) (by have := HBR.out.size; simp; omega) ?_)
      intro v' w4 hown2 hgrow _
      have hb3 : Below w3.heap.size w3 w4 := (HBR.out.alloc HBR.out.size _).grown hgrow (by have := HBR.out.size; simp; omega) (own_block_le HOW.out)
      have H3 := Lib.hid (own_push hown2 (Dd.lmb_zero k).symm); have B3 := Lib.hid hb3
      clear hown2 hgrow hb3 c1 d1
      go_wp2_with fail
      go_roundw
      case rel => exact ⟨k + 1, by omega, by go_num, H3.out, B3.out⟩
      case measure => simp [intOf]; omega
    · obtain rfl : k = n + m := by omega
      obtain ⟨wo, rfl⟩ : ∃ wo : World, wo = wr := ⟨_, rfl⟩
      go_wp2_with fail
      go_loopw [7] (fun i wr => ∃ k : Nat, k ≤ n ∧ i = .int .i64 k ∧ wr.ownsRow w3.heap.size 3 1 u5 (n + m) (row .i64 (Dd.lmb (Dd.prt p q k)) (n + m)) ∧ Below w3.heap.size w3 wr) (fun i _ => n - (intOf i).toNat)
      case atStart => exact ⟨0, Nat.zero_le _, rfl, by rw [Dd.prt_zero]; exact HOW.out, HBR.out⟩
      case round =>
        clear HOW HBR c1 d1
        obtain ⟨k, hk, rfl, hown, hbr⟩ := hrel
        have bxr := BX.out.below hbr (Nat.le_refl _)
        have c1 := bxr.c1; have d1 := bxr.d1
        have HOW := Lib.hid hown; have HBR := Lib.hid hbr; have BXR := Lib.hid bxr
        clear hown hbr bxr
        by_cases hlt : k < n
        · obtain ⟨g, cg, hv, hg1, hg2⟩ := HOW.out.form (by omega)
          subst hv
          have hcg := (Sl.of_own HOW.out)
          have hcc : n + m ≤ cg ∧ cg ≤ 9223372036854775807 := by
            obtain ⟨A9, c9, hv9, hs9⟩ := hcg
            injection hv9 with _ _ e9
            subst e9
            exact ⟨hs9.cap, by have := hs9.max; unfold maxLen at this; omega⟩
          clear hcg hg2
          go_wp2_with fail
          obtain ⟨wo, rfl⟩ : ∃ wo : World, wo = wr := ⟨_, rfl⟩
          go_loopw [8, 9] (fun cr j wr => ∃ l : Nat, l ≤ m ∧ j = .int .i64 l ∧ cr = .int .i64 (Dd.kar p q k l) ∧ wr.ownsRow w3.heap.size 3 1 (.slice (some ⟨g, 0, none⟩) (n + m) cg) (n + m) (row .i64 (Dd.mid p q k l) (n + m)) ∧ Below w3.heap.size w3 wr) (fun _ j _ => m - (intOf j).toNat)
          case atStart => exact ⟨0, Nat.zero_le _, rfl, by rw [Dd.kar_zero], own_congr HOW.out (fun i _ => Dd.mid_zero p q k i), HBR.out⟩
          case round =>
            clear HOW HBR c1 d1 BXR
            obtain ⟨l, hl, rfl, rfl, hown, hbr⟩ := hrel
            have bxr := BX.out.below hbr (Nat.le_refl _)
            have c1 := bxr.c1; have d1 := bxr.d1
            have hna := NA.out.below hbr (Nat.le_refl _); have hnb := NB.out.below hbr (Nat.le_refl _)
            have hkr := Dd.isW_kar p q k l
            unfold Dd.IsW at hkr
            by_cases hlt2 : l < m
            · obtain ⟨ab, ao, rfl, halt, hac⟩ := hna.1.at_ (by omega)
              obtain ⟨bb, bo, rfl, hblt, hbc⟩ := hnb.1.at_ (by omega)
              have c2 : wr.cell? ⟨ab, ao + k, none⟩ = some (.int .i64 (Dd.lmb p k)) := by rw [HP.out]; exact hac k hlt
              have c3 : wr.cell? ⟨bb, bo + l, none⟩ = some (.int .i64 (Dd.lmb q l)) := by rw [HQ.out]; exact hbc l hlt2
              have c4 : wr.cell? ⟨g, k + l, none⟩ = some (.int .i64 (Dd.lmb (Dd.prt p q k) (k + l))) := by rw [← Dd.mid_at p q k l]; exact own_cell hown (by omega)
              have c5 : wr.frozen? ⟨g, k + l, none⟩ = false := World.ownsRow.frozenAt hown (k + l)
              have hst := Dd.kar_step2 p q k l
              have hpr := Dd.isW_lt_mul (Dd.isW_lmb p k) (Dd.isW_lmb q l)
              have r1 := Dd.lmb_range (Dd.prt p q k) (k + l)
              have r2 := Dd.lmb_range p k; have r3 := Dd.lmb_range q l
              have HOW := Lib.hid hown; have HBR := Lib.hid hbr; have HST := Lib.hid hst
              clear hown hbr bxr hna hnb hac hbc hst
              have s4 : (k : Int) + (l : Int) < (n : Int) + (m : Int) := by omega
              have s2 : (0 : Int) ≤ (k : Int) + (l : Int) := by omega
              go_wp2_with fail
              have s1 : IntKind.i64.wrap ((k : Int) + (l : Int)) = (k : Int) + (l : Int) := IntWalk.i64_in _ (by omega)
              have s3 : ((k : Int) + (l : Int)).toNat = k + l := by omega
              go_quiet (fail)
              clear s1 s3
              go_wp2_with fail
              go_roundw
              case rel => exact ⟨l + 1, by omega, by go_num, by rw [HST.out.2], own_set (own_drewN HOW.out nq) (by rw [HST.out.1]; exact Dd.mid_next p q k l) (fun i _ hne => Dd.mid_other p q k l i hne), (below_drewN9 HBR.out nq).setCell (p := ⟨g, k + l, none⟩) hg1 _⟩
              case measure => simp [intOf]; omega
            · obtain rfl : l = m := by omega
              have hz : Dd.lmb (Dd.prt p q k) (k + l) = 0 := Dd.lmb_beyond (Dd.fits_prt (k := k) HFP.out.1.1 HFQ.out.1) (Nat.le_refl _)
              have c4 : wr.cell? ⟨g, k + l, none⟩ = some (.int .i64 0) := by rw [← hz, ← Dd.mid_at p q k l]; exact own_cell hown (by omega)
              have c5 : wr.frozen? ⟨g, k + l, none⟩ = false := World.ownsRow.frozenAt hown (k + l)
              have hkl := Dd.kar_last (k := k) HFP.out.1.1 HFQ.out.1
              have HOW := Lib.hid hown; have HBR := Lib.hid hbr; have HKL := Lib.hid hkl
              clear hown hbr bxr hna hnb hz hkl
              go_wp2_with fail
              go_roundw
              case rel => exact ⟨k + 1, by omega, by go_num, own_set HOW.out HKL.out (fun i _ hne => Dd.mid_rest HFP.out.1.1 HFQ.out.1 hne), HBR.out.setCell (p := ⟨g, k + l, none⟩) hg1 _⟩
              case measure => simp [intOf]; omega
        · obtain rfl : k = n := by omega
          have hown := HOW.out
          rw [Dd.prt_whole HFP.out.1] at hown
          have hfit : Dd.Fits (k + m) (p * q) := by
            have := Dd.fits_prt (k := k) HFP.out.1.1 HFQ.out.1
            rw [Dd.prt_whole HFP.out.1] at this; exact this
          obtain ⟨A9, c9, hv9, hs9⟩ := Sl.of_own hown
          subst hv9
          have HS9 := Lib.hid hs9; have HT9 := Lib.hid (Ty.of_own hown); have HFT := Lib.hid hfit
          clear hown hs9 hfit HOW
          have c0 := BXR.out.c0; have d0 := BXR.out.d0
          have s1 : IntKind.i64.wrap (sg x * sg y) = sg x * sg y := IntWalk.i64_in _ (by omega)
          go_wp2_with fail
          refine (ref3_make16 _ A9 (k + m) c9 (p * q) (x * y) _ HS9.out HFT.out HNM.out (fun _ => HSM.out) HT9.out).mono ?_
          rintro e w6 ⟨⟨A3, k3, c3, rfl, hk3, hnm⟩, hb6⟩
          have hb7 : Below w3.heap.size w3 w6 := HBR.out.trans (hb6.mono HBR.out.size)
          have B6 := Lib.hid (BX.out.below hb7 (Nat.le_refl _))
          have q0 := B6.out.cell 0; have q1 := B6.out.cell 1; have q2 := B6.out.free 0; have q3 := B6.out.free 1
          have N6 := Lib.hid hnm; have D6 := Lib.hid (BW.out.trans (hb7.mono BW.out.size))
          clear hnm hb7 hb6 s1 c0 d0 c1 d1
          go_wp2_with fail
          refine bodyPost_ret (v := .agg #[.int .i64 (sg (x * y)), .slice A3 k3 c3]) (by simp [results, Tryd.results96, go_sem, q0, q1]) rfl ⟨⟨A3, k3, c3, rfl, hk3, B6.out.set2 N6.out⟩, ?_⟩
          exact (D6.out.setCell (p := ⟨w.heap.size + 1 + 1, 0, none⟩) (by simp; omega) _).setCell (p := ⟨w.heap.size + 1 + 1, 1, none⟩) (by simp; omega) _
end Go.Proofs.YtoikcgmdlccdbaaDoor
