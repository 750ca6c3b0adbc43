/- The contract of limb.Mul: the limbs of the product. -/
import Derived.Test.YtoikcgmdlccdbaaDoorLimb2
import Derived.Deep.RegionWith
namespace Go.Proofs.YtoikcgmdlccdbaaDoor
set_option linter.unusedVariables false
set_option linter.unusedSimpArgs false
open Go.RowKit Wd

/-- the row while a product's row is under way -/
def mid (x y : Int) (i j : Nat) : Nat → Int := fun k => if k < i + j then lmb (prt x y (i + 1)) k else lmb (prt x y i) k
theorem mid_zero (x y : Int) (i k : Nat) : lmb (prt x y i) k = mid x y i 0 k := by
  unfold mid; split
  · rw [prt_low x y (by omega)]
  · rfl
theorem mid_at (x y : Int) (i j : Nat) : mid x y i j (i + j) = lmb (prt x y i) (i + j) := by unfold mid; rw [if_neg (by omega)]
theorem mid_next (x y : Int) (i j : Nat) : lmb (prt x y (i + 1)) (i + j) = mid x y i (j + 1) (i + j) := by unfold mid; rw [if_pos (by omega)]
theorem mid_other (x y : Int) (i j k : Nat) (h : k ≠ i + j) : mid x y i j k = mid x y i (j + 1) k := by
  unfold mid
  by_cases h1 : k < i + j
  · rw [if_pos h1, if_pos (by omega)]
  · rw [if_neg h1, if_neg (by omega)]
theorem mid_end (x y : Int) (i n k : Nat) (hi : i ≤ n) (hk : k < n) : mid x y i (n - i) k = lmb (prt x y (i + 1)) k := by unfold mid; rw [if_pos (by omega)]

theorem word_MulAdd_step (x y : Int) (i j : Nat) (w : World) : Calls Tryd.prog 123 #[.int .u64 (lmb x i), .int .u64 (lmb y j), .int .u64 (lmb (prt x y i) (i + j)), .int .u64 (kar x y i j)] w fun e w' => e = .returned (.tuple #[.int .u64 (kar x y i (j + 1)), .int .u64 (lmb (prt x y (i + 1)) (i + j))]) ∧ w' = w := by
  have hk := isW_kar x y i j
  have h := word_MulAdd _ _ _ _ (isW_lmb x i) (isW_lmb y j) (isW_lmb (prt x y i) (i + j)) hk w
  rw [(kar_step x y i j hk).1, (kar_step x y i j hk).2.1] at h
  exact calls_flip h

set_option maxRecDepth 100000 in
set_option maxHeartbeats 4000000 in
theorem limb_Mul (A A' : Option Addr) (n c m c' : Nat) (x y : Int) (w : World) (ha : Sl w .u64 A n c (lmb x)) (hb : Sl w .u64 A' m c' (lmb y)) (hx : Fit n x) (hy : Fit m y) (hn : isN n = true) (hm : isN m = true) (hs : n + m ≤ 8) :
    Calls Tryd.prog 114 #[.slice A n c, .slice A' m c'] w fun e w' => ∃ A2 c2, e = .returned (.slice A2 (n + m) c2) ∧ Sl w' .u64 A2 (n + m) c2 (lmb (x * y)) ∧ Below w.heap.size w w' := by
  obtain ⟨i0, hi0, hz0, hz1, hz2⟩ := info_parts info_u64
  have hn' := isN_true hn
  have hm' := isN_true hm
  have hmax := ha.max; have hmax' := hb.max; have hcap := ha.cap; have hcap' := hb.cap
  have hN : isN (n + m) = true := by simp [isN]; omega
  have hI : (isN n && isN m) = true := by rw [hn, hm]; rfl
  have HI := Lib.hid hI; have HN := Lib.hid hn; have HM := Lib.hid hm; have HNM := Lib.hid hN; have HX := Lib.hid hx; have HY := Lib.hid hy
  clear hI hn hm hN hx hy
  have hd : decide (8 < (n : Int) + (m : Int)) = false := by simp; omega
  go_enter Tryd.func114, Tryd.ntmps114
  go_wp2_with fail
  refine (limb_is2 _ A A' n c m c' (by omega) (by omega) _ (by simp [go_sem]) (by simp [go_sem])).mono ?_
  rintro e w1 ⟨rfl, rfl⟩
  rw [HI.out]
  go_wp2_with fail
  refine (limb_Extend A n c x _ (n + m) (by omega) _ (ha.alloc _) HX.out HN.out HNM.out).mono ?_
  rintro e w1 ⟨X, cx, rfl, hsx, hb1⟩
  have hbb1 : Below w.heap.size w w1 := ((Below.refl w.heap.size w).alloc (Nat.le_refl _) _).trans (hb1.mono (by simp))
  have hb' := hb.below hbb1 (Nat.le_refl _)
  go_wp2_with fail
  refine (limb_Extend A' m c' y _ (n + m) (by omega) _ hb' HY.out HM.out HNM.out).mono ?_
  rintro e w2 ⟨Y, cy, rfl, hsy, hb2⟩
  have hsx2 := hsx.below hb2 (Nat.le_refl _)
  have hbb2 : Below w.heap.size w w2 := hbb1.trans (hb2.mono hbb1.size)
  clear hsx hb1 hb2 hb' hbb1 ha hb
  obtain ⟨xb, xo, rfl, hxlt, hxc⟩ := hsx2.at_ (by omega)
  obtain ⟨yb, yo, rfl, hylt, hyc⟩ := hsy.at_ (by omega)
  have hxcap := hsx2.cap; have hycap := hsy.cap; have hxm := hsx2.max; have hym := hsy.max
  have HXC := Lib.hid hxc; have HYC := Lib.hid hyc; have HBB := Lib.hid hbb2
  clear hsx2 hsy hxc hyc hbb2
  go_wp2_with (at_make; refine wpList_make_full _ rfl _ _ 94 rfl w2.heap.size 23 i0 (.int .u64 0) 1 Tryd.underlying94 hi0 hz0 hz1 .i64 .i64 ((n : Int) + (m : Int)) ((n : Int) + (m : Int)) (n + m) rfl rfl (by omega) (by omega) (by rw [hz2]; omega) (by unfold maxLen; omega) (Nat.le_refl _) ?_)
  intro w3 hown hgrow
  have hb3 : Below w2.heap.size w2 w3 := (Below.refl _ _).grown hgrow (Nat.le_refl _) (by intro k hk; cases hk)
  rw [toList_madeCells_one, row_zero .u64 (lmb 0) (n + m), row_congr (g := lmb (prt x y 0)) (by intro i _; simp [upd, prt_zero, lmb_zero])] at hown
  have HO := Lib.hid hown; have HB3 := Lib.hid hb3
  have hg1 : w2.heap.size < w3.heap.size := (hown.lt _ rfl).2
  clear hown hb3 hgrow
  go_wp2_with fail
  go_loopw [35] (fun i wr => ∃ k : Nat, k ≤ n + m ∧ i = .int .i64 k ∧ wr.ownsRow w2.heap.size 23 1 (.slice (some ⟨w2.heap.size, 0, none⟩) (n + m) (n + m)) (n + m) (row .u64 (lmb (prt x y k)) (n + m)) ∧ Below w2.heap.size w2 wr)
    (fun i _ => n + m - (intOf i).toNat)
  case atStart => exact ⟨0, Nat.zero_le _, rfl, HO.out, HB3.out⟩
  case round =>
    clear HO HB3
    obtain ⟨k, hk, rfl, hown, hbr⟩ := hrel
    by_cases hlt2 : k < n + m
    · obtain ⟨wo, rfl⟩ : ∃ wo : World, wo = wr := ⟨_, rfl⟩
      have HOW := Lib.hid hown; have HBR := Lib.hid hbr
      clear hown hbr
      have hd2 : decide ((k : Int) < (n : Int) + (m : Int)) = true := by simp; omega
      go_wp2_with fail
      go_loopw [10, 41] (fun cr j wr => ∃ l : Nat, l ≤ n + m - k ∧ j = .int .i64 l ∧ cr = .int .u64 (kar x y k l) ∧ wr.ownsRow w2.heap.size 23 1 (.slice (some ⟨w2.heap.size, 0, none⟩) (n + m) (n + m)) (n + m) (row .u64 (mid x y k l) (n + m)) ∧ Below w2.heap.size w2 wr)
        (fun _ j _ => n + m - k - (intOf j).toNat)
      case atStart => exact ⟨0, Nat.zero_le _, rfl, by rw [kar_zero], own_congr HOW.out (fun i _ => mid_zero x y k i), HBR.out⟩
      case round =>
        clear HOW HBR
        obtain ⟨l, hl, rfl, rfl, hown, hbr⟩ := hrel
        by_cases hlt3 : l < n + m - k
        · have c1 : wr.cell? ⟨xb, xo + k, none⟩ = some (.int .u64 (lmb x k)) := (hbr.cell (p := ⟨xb, xo + k, none⟩) hxlt).trans (HXC.out k hlt2)
          have c2 : wr.cell? ⟨yb, yo + l, none⟩ = some (.int .u64 (lmb y l)) := (hbr.cell (p := ⟨yb, yo + l, none⟩) hylt).trans (HYC.out l (by omega))
          have c3 : wr.cell? ⟨w2.heap.size, k + l, none⟩ = some (.int .u64 (lmb (prt x y k) (k + l))) := by rw [← mid_at x y k l]; exact own_cell hown (by omega)
          have c4 : wr.frozen? ⟨w2.heap.size, k + l, none⟩ = false := World.ownsRow.frozenAt hown (k + l)
          have HOW := Lib.hid hown; have HBR := Lib.hid hbr
          clear hown hbr HXC HYC HI HN HM HNM HX HY
          go_wp2_with fail
          have s1 : IntKind.i64.wrap ((k : Int) + (l : Int)) = (k : Int) + (l : Int) := IntWalk.i64_in _ (by omega)
          have s2 : (0 : Int) ≤ (k : Int) + (l : Int) := by omega
          have s3 : ((k : Int) + (l : Int)).toNat = k + l := by omega
          have s4 : (k : Int) + (l : Int) < (n : Int) + (m : Int) := by omega
          have s5 : (k : Int) < (n : Int) + (m : Int) := by omega
          have s6 : (l : Int) < (n : Int) + (m : Int) := by omega
          go_region_with (go_at_call 123; refine (word_MulAdd_step x y k l _).mono ?_; rintro e w' ⟨rfl, rfl⟩)
          all_goals
            clear s1 s3
            go_wp2_with fail
            go_roundw
            case rel => exact ⟨l + 1, by omega, by go_num, rfl, (own_set HOW.out (mid_next x y k l) (fun i _ hne => mid_other x y k l i hne)).drew, (HBR.out.setCell (p := ⟨w2.heap.size, k + l, none⟩) (Nat.le_refl _) _).drew⟩
            case measure => simp [intOf]; omega
        · have hown' := own_congr hown (g := lmb (prt x y (k + 1))) (fun i hi => by rw [show l = n + m - k from by omega]; exact mid_end x y k (n + m) i hk hi)
          have HOW := Lib.hid hown'; have HBR := Lib.hid hbr
          clear hown hown' hbr
          go_wp2_with fail
          go_roundw
          case rel => exact ⟨k + 1, by omega, by go_num, HOW.out, HBR.out⟩
          case measure => simp [intOf]; omega
    · obtain rfl : k = n + m := by omega
      obtain ⟨A2, c2, hv, hsl⟩ := Sl.of_own hown
      injection hv with e1 e2 e3
      subst e1 e3
      have HSL := Lib.hid (hsl.congr (g := lmb (x * y)) (fun i hi => prt_last x y hi)); have HBR := Lib.hid hbr
      clear hown hsl hbr
      go_wp2_with fail
      go_ret
      exact ⟨_, _, rfl, HSL.out, HBB.out.trans (HBR.out.mono HBB.out.size)⟩
end Go.Proofs.YtoikcgmdlccdbaaDoor
