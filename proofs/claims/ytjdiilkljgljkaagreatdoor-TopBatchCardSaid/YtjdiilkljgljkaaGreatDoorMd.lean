/- Part d of the lemmas of TopBatch: contracts of functions of the program, and plain laws of numbers, bytes and memory. -/
import Derived.Test.YtjdiilkljgljkaaGreatDoorMc
import Derived.Deep.RegionWith
import Derived.Test.YtjdiilkljgljkaaGreatDoorMa
import Derived.Deep.RegionHeld3
set_option maxHeartbeats 4000000
namespace Go.Proofs.YtjdiilkljgljkaaGreatDoor
set_option linter.unusedVariables false
set_option linter.unusedSimpArgs false
open Go.RowKit Wd
def mid (x y : Int) (i j : Nat) : Nat → Int := fun k => if k < i + j then lmb (prt x y (i + 1)) k else lmb (prt x y i) k
theorem mid_zero (x y : Int) (i k : Nat) : lmb (prt x y i) k = mid x y i 0 k := by
 unfold mid; split
 ·rw [prt_low x y (by omega)]
 ·rfl
theorem mid_at (x y : Int) (i j : Nat) : mid x y i j (i + j) = lmb (prt x y i) (i + j) := by unfold mid; rw [if_neg (by omega)]
theorem mid_next (x y : Int) (i j : Nat) : lmb (prt x y (i + 1)) (i + j) = mid x y i (j + 1) (i + j) := by unfold mid; rw [if_pos (by omega)]
theorem mid_other (x y : Int) (i j k : Nat) (h : k ≠ i + j) : mid x y i j k = mid x y i (j + 1) k := by
 unfold mid
 by_cases h1 : k < i + j
 ·rw [if_pos h1, if_pos (by omega)]
 ·rw [if_neg h1, if_neg (by omega)]
theorem ZiJ (x y : Int) (i n k : Nat) (hi : i ≤ n) (hk : k < n) : mid x y i (n - i) k = lmb (prt x y (i + 1)) k := by unfold mid; rw [if_pos (by omega)]
theorem ZcW (x y : Int) (i j : Nat) (w : World) : Calls Tryz.prog 151 #[.int .u64 (lmb x i), .int .u64 (lmb y j), .int .u64 (lmb (prt x y i) (i + j)), .int .u64 (kar x y i j)] w fun e w' => e = .returned (.tuple #[.int .u64 (kar x y i (j + 1)), .int .u64 (lmb (prt x y (i + 1)) (i + j))]) ∧ w' = w := by
 have hk := isW_kar x y i j
 have h := ZfF _ _ _ _ (isW_lmb x i) (isW_lmb y j) (isW_lmb (prt x y i) (i + j)) hk w
 rw [(kar_step x y i j hk).1, (kar_step x y i j hk).2.1] at h
 exact Zaz h
set_option maxRecDepth 100000 in
theorem Zaq (A A' : Option Addr) (n c m c' : Nat) (x y : Int) (w : World) (ha : Sl w .u64 A n c (lmb x)) (hb : Sl w .u64 A' m c' (lmb y)) (hx : Fit n x) (hy : Fit m y) (hn : isN n = true) (hm : isN m = true) (hs : n + m ≤ 8) :
  Calls Tryz.prog 127 #[.slice A n c, .slice A' m c'] w fun e w' => ∃ A2 c2, e = .returned (.slice A2 (n + m) c2) ∧ Sl w' .u64 A2 (n + m) c2 (lmb (x * y)) ∧ Below w.heap.size w w' := by
 obtain ⟨i0, hi0, hz0, hz1, hz2⟩ := info_parts Zbb
 have hn' := Zap hn
 have hm' := Zap hm
 have hmax := ha.max; have hmax' := hb.max; have hcap := ha.cap; have hcap' := hb.cap
 have hN : isN (n + m) = true := by simp [isN]; omega
 have hI : (isN n && isN m) = true := by rw [hn, hm]; rfl
 have HI := η hI; have HN := η hn; have HM := η hm; have HNM := η hN; have HX := η hx; have HY := η hy
 clear hI hn hm hN hx hy
 have hd : decide (8 < (n : Int) + (m : Int)) = false := by simp; omega
 go_enter Tryz.func127, Tryz.ntmps127
 go_wp2_with fail
 refine (ZcS _ A A' n c m c' (by omega) (by omega) _ (by simp [go_sem]) (by simp [go_sem])).mono ?_
 rintro e w1 ⟨rfl, rfl⟩
 rw [HI.out]
 go_wp2_with fail
 refine (Js A n c x _ (n + m) (by omega) _ (ha.alloc _) HX.out HN.out HNM.out).mono ?_
 rintro e w1 ⟨X, cx, rfl, hsx, hb1⟩
 have hbb1 : Below w.heap.size w w1 := ((Below.refl w.heap.size w).alloc ν _).trans (hb1.mono (by simp))
 have hb' := hb.below hbb1 ν
 go_wp2_with fail
 refine (Js A' m c' y _ (n + m) (by omega) _ hb' HY.out HM.out HNM.out).mono ?_
 rintro e w2 ⟨Y, cy, rfl, hsy, hb2⟩
 have hsx2 := hsx.below hb2 ν
 have hbb2 : Below w.heap.size w w2 := hbb1.trans (hb2.mono hbb1.size)
 clear hsx hb1 hb2 hb' hbb1 ha hb
 obtain ⟨xb, xo, rfl, hxlt, hxc⟩ := hsx2.at_ (by omega)
 obtain ⟨yb, yo, rfl, hylt, hyc⟩ := hsy.at_ (by omega)
 have hxcap := hsx2.cap; have hycap := hsy.cap; have hxm := hsx2.max; have hym := hsy.max
 have HXC := η hxc; have HYC := η hyc; have HBB := η hbb2
 clear hsx2 hsy hxc hyc hbb2
 go_wp2_with (at_make; refine wpList_make_full _ rfl _ _ 93 rfl w2.heap.size 61 i0 (.int .u64 0) 1 Tryz.underlying93 hi0 hz0 hz1 .i64 .i64 ((n : Int) + (m : Int)) ((n : Int) + (m : Int)) (n + m) rfl rfl (by omega) (by omega) (by rw [hz2]; omega) (by unfold maxLen; omega) ν ?_)
 intro w3 hown hgrow
 have hb3 : Below w2.heap.size w2 w3 := (Below.refl _ _).grown hgrow ν (by intro k hk; cases hk)
 rw [toList_madeCells_one, ZcN .u64 (lmb 0) (n + m), Zc7 (g := lmb (prt x y 0)) (by intro i _; simp [upd, prt_zero, lmb_zero])] at hown
 have HO := η hown; have HB3 := η hb3
 have hg1 : w2.heap.size < w3.heap.size := (hown.lt _ rfl).2
 clear hown hb3 hgrow
 go_wp2_with fail
 go_loopw [35] (fun i wr => ∃ k : Nat, k ≤ n + m ∧ i = .int .i64 k ∧ wr.ownsRow w2.heap.size 61 1 (.slice (some ⟨w2.heap.size, 0, none⟩) (n + m) (n + m)) (n + m) (row .u64 (lmb (prt x y k)) (n + m)) ∧ Below w2.heap.size w2 wr)
  (fun i _ => n + m - (intOf i).toNat)
 case atStart => exact ⟨0, Nat.zero_le _, rfl, HO.out, HB3.out⟩
 case round =>
  clear HO HB3
  obtain ⟨k, hk, rfl, hown, hbr⟩ := hrel
  by_cases hlt2 : k < n + m
  ·obtain ⟨wo, rfl⟩ : ∃ wo : World, wo = wr := ⟨_, rfl⟩
   have HOW := η hown; have HBR := η hbr
   clear hown hbr
   have hd2 : decide ((k : Int) < (n : Int) + (m : Int)) = true := by simp; omega
   go_wp2_with fail
   go_loopw [10, 41] (fun cr j wr => ∃ l : Nat, l ≤ n + m - k ∧ j = .int .i64 l ∧ cr = .int .u64 (kar x y k l) ∧ wr.ownsRow w2.heap.size 61 1 (.slice (some ⟨w2.heap.size, 0, none⟩) (n + m) (n + m)) (n + m) (row .u64 (mid x y k l) (n + m)) ∧ Below w2.heap.size w2 wr)
    (fun _ j _ => n + m - k - (intOf j).toNat)
   case atStart => exact ⟨0, Nat.zero_le _, rfl, by rw [kar_zero], Zc8 HOW.out (fun i _ => mid_zero x y k i), HBR.out⟩
   case round =>
    clear HOW HBR
    obtain ⟨l, hl, rfl, rfl, hown, hbr⟩ := hrel
    by_cases hlt3 : l < n + m - k
    ·have c1 : wr.cell? ⟨xb, xo + k, none⟩ = some (.int .u64 (lmb x k)) := (hbr.cell (p := ⟨xb, xo + k, none⟩) hxlt).trans (HXC.out k hlt2)
     have c2 : wr.cell? ⟨yb, yo + l, none⟩ = some (.int .u64 (lmb y l)) := (hbr.cell (p := ⟨yb, yo + l, none⟩) hylt).trans (HYC.out l (by omega))
     have c3 : wr.cell? ⟨w2.heap.size, k + l, none⟩ = some (.int .u64 (lmb (prt x y k) (k + l))) := by rw [← mid_at x y k l]; exact ZcO hown (by omega)
     have c4 : wr.frozen? ⟨w2.heap.size, k + l, none⟩ = false := World.ownsRow.frozenAt hown (k + l)
     have HOW := η hown; have HBR := η hbr
     clear hown hbr HXC HYC HI HN HM HNM HX HY
     go_wp2_with fail
     have s1 : IntKind.i64.wrap ((k : Int) + (l : Int)) = (k : Int) + (l : Int) := IntWalk.i64_in _ (by omega)
     have s2 : (0 : Int) ≤ (k : Int) + (l : Int) := by omega
     have s3 : ((k : Int) + (l : Int)).toNat = k + l := by omega
     have s4 : (k : Int) + (l : Int) < (n : Int) + (m : Int) := by omega
     have s5 : (k : Int) < (n : Int) + (m : Int) := by omega
     have s6 : (l : Int) < (n : Int) + (m : Int) := by omega
     go_region_with (go_at_call 151; refine (ZcW x y k l _).mono ?_; rintro e w' ⟨rfl, rfl⟩)
     all_goals
      clear s1 s3
      go_wp2_with fail
      go_roundw
      case rel => exact ⟨l + 1, by omega, by go_num, rfl, (Zdz HOW.out (mid_next x y k l) (fun i _ hne => mid_other x y k l i hne)).drew, (HBR.out.setCell (p := ⟨w2.heap.size, k + l, none⟩) ν _).drew⟩
      case measure => simp [intOf]; omega
    ·have hown' := Zc8 hown (g := lmb (prt x y (k + 1))) (fun i hi => by rw [show l = n + m - k from by omega]; exact ZiJ x y k (n + m) i hk hi)
     have HOW := η hown'; have HBR := η hbr
     clear hown hown' hbr
     go_wp2_with fail
     go_roundw
     case rel => exact ⟨k + 1, by omega, by go_num, HOW.out, HBR.out⟩
     case measure => simp [intOf]; omega
  ·obtain rfl : k = n + m := by omega
   obtain ⟨A2, c2, hv, hsl⟩ := Sl.of_own hown
   injection hv with e1 e2 e3
   subst e1 e3
   have HSL := η (hsl.congr (g := lmb (x * y)) (fun i hi => prt_last x y hi)); have HBR := η hbr
   clear hown hsl hbr
   go_wp2_with fail
   go_ret
   exact ⟨_, _, rfl, HSL.out, HBB.out.trans (HBR.out.mono HBB.out.size)⟩
theorem Jp {x y : Int} (hx : IsI x) (hy : IsI y) : Fit 2 (x - y) := by
 unfold Fit IsI at *
 rw [show S 2 = 340282366920938463463374607431768211456 from rfl]; omega
def vB (n m : Nat) : Bool := decide (n = 2 ∧ m = 2)
theorem ne2 {n : Nat} (h : n ≠ 2) : ((n : Int) != 2) = true := by simp; omega
set_option maxHeartbeats 1000000 in
theorem Zf2 (bb : Nat) (A0 : Option Addr) (n0 c0 : Nat) (A1 : Option Addr) (n1 c1 : Nat) (A2 : Option Addr) (n2 c2 : Nat) (A3 : Option Addr) (n3 c3 : Nat) (w : World) (m0 : n0 ≤ maxLen) (m1 : n1 ≤ maxLen) (m2 : n2 ≤ maxLen) (m3 : n3 ≤ maxLen) (g0 : w.cell? ⟨bb, 0, none⟩ = some (.slice A0 n0 c0)) (g1 : w.cell? ⟨bb, 1, none⟩ = some (.slice A1 n1 c1)) (g2 : w.cell? ⟨bb, 2, none⟩ = some (.slice A2 n2 c2)) (g3 : w.cell? ⟨bb, 3, none⟩ = some (.slice A3 n3 c3)) :
  Calls Tryz.prog 126 #[.slice (some ⟨bb, 0, none⟩) 2 2] w fun e w' => e = .returned (.bool (vB n0 n1 && vB n2 n3)) ∧ Below w.heap.size w w' := by
 have l0 : bb < w.heap.size := Zah g0
 have l1 : bb < w.heap.size := Zah g1
 have l2 : bb < w.heap.size := Zah g2
 have l3 : bb < w.heap.size := Zah g3
 unfold maxLen at m0 m1 m2 m3
 by_cases h0 : n0 = 2
 rotate_left
 ·have e0 := ne2 h0
  rw [show (vB n0 n1 && vB n2 n3) = false from by simp [vB, h0]]
  go_enter Tryz.func126, Tryz.ntmps126
  go_wp2
  refine wp_loop_rounds 3 ?_
  rw [rounds_succ]
  go_wp2
  go_ret
  exact ⟨rfl, ((Below.refl w.heap.size w).alloc ν _)⟩
 subst h0
 by_cases h1 : n1 = 2
 rotate_left
 ·have e1 := ne2 h1
  rw [show (vB 2 n1 && vB n2 n3) = false from by simp [vB, h1]]
  go_enter Tryz.func126, Tryz.ntmps126
  go_wp2
  refine wp_loop_rounds 3 ?_
  rw [rounds_succ]
  go_wp2
  go_ret
  exact ⟨rfl, ((Below.refl w.heap.size w).alloc ν _)⟩
 subst h1
 by_cases h2 : n2 = 2
 rotate_left
 ·have e2 := ne2 h2
  rw [show (vB 2 2 && vB n2 n3) = false from by simp [vB, h2]]
  go_enter Tryz.func126, Tryz.ntmps126
  go_wp2
  refine wp_loop_rounds 3 ?_
  rw [rounds_succ]
  go_wp2
  rw [rounds_succ]
  go_wp2
  go_ret
  exact ⟨rfl, (((Below.refl w.heap.size w).alloc ν _).alloc (by simp; try omega) _)⟩
 subst h2
 by_cases h3 : n3 = 2
 rotate_left
 ·have e3 := ne2 h3
  rw [show (vB 2 2 && vB 2 n3) = false from by simp [vB, h3]]
  go_enter Tryz.func126, Tryz.ntmps126
  go_wp2
  refine wp_loop_rounds 3 ?_
  rw [rounds_succ]
  go_wp2
  rw [rounds_succ]
  go_wp2
  go_ret
  exact ⟨rfl, (((Below.refl w.heap.size w).alloc ν _).alloc (by simp; try omega) _)⟩
 subst h3
 rw [show (vB 2 2 && vB 2 2) = true from rfl]
 go_enter Tryz.func126, Tryz.ntmps126
 go_wp2
 refine wp_loop_rounds 3 ?_
 rw [rounds_succ]
 go_wp2
 rw [rounds_succ]
 go_wp2
 rw [rounds_succ]
 go_wp2
 go_ret
 exact ⟨rfl, (((Below.refl w.heap.size w).alloc ν _).alloc (by simp; try omega) _)⟩
set_option maxHeartbeats 1000000 in
theorem Zbk (a b : Int) (ha : IsI a) (hb : IsI b) (w : World) :
  Calls Tryz.prog 107 #[.int .i64 a, .int .i64 b] w fun e w' => (∃ A c, e = .returned (.slice A 2 c) ∧ Sl w' .u64 A 2 c (lmb (a - b))) ∧ Below w.heap.size w w' := by
 have HB0 := η (Below.refl w.heap.size w)
 go_enter Tryz.func107, Tryz.ntmps107
 go_wp2_with fail
 refine (Zce a 2 2 rfl ha rfl _).mono ?_
 rintro e w1 ⟨A1, c1, rfl, SA, B⟩
 have HB1 := η (HB0.out.trans (B.mono HB0.out.size))
 have FA_1 := η SA
 clear B SA HB0
 go_wp2_with fail
 refine (Zce b 2 2 rfl hb rfl _).mono ?_
 rintro e w2 ⟨A2, c2, rfl, SB, B⟩
 have HB2 := η (HB1.out.trans (B.mono HB1.out.size))
 have FA_2 := η (FA_1.out.below B ν)
 have FB_2 := η SB
 clear B SB HB1 FA_1
 go_wp2_with fail
 refine (Zf1 _ _ _ _ _ _ _ _ FA_2.out FB_2.out rfl).mono ?_
 rintro e w3 ⟨A3, c3, rfl, SC, B⟩
 have HB3 := η (HB2.out.trans (B.mono HB2.out.size))
 have FA_3 := η (FA_2.out.below B ν)
 have FB_3 := η (FB_2.out.below B ν)
 have FC_3 := η SC
 clear B SC HB2 FA_2 FB_2
 go_wp2_with fail
 go_ret
 exact ⟨⟨_, _, rfl, FC_3.out⟩, HB3.out⟩
set_option maxHeartbeats 1000000 in
theorem Za5 (ax ay bx b_ : Int) (h1 : IsI ax) (h2 : IsI ay) (h3 : IsI bx) (h4 : IsI b_) (w : World) :
  Calls Tryz.prog 76 #[.agg #[.int .i64 ax, .int .i64 ay], .agg #[.int .i64 bx, .int .i64 b_]] w fun e w' => (∃ A c A' c', e = .returned (.agg #[.slice A 2 c, .slice A' 2 c']) ∧ Sl w' .u64 A 2 c (lmb (bx - ax)) ∧ Sl w' .u64 A' 2 c' (lmb (b_ - ay))) ∧ Below w.heap.size w w' := by
 have HB0 := η (Below.refl w.heap.size w)
 go_enter Tryz.func76, Tryz.ntmps76
 go_wp2_with fail
 have B : Below w.heap.size w (((w.alloc (.cells #[.int .i64 ax, .int .i64 ay] 23)).alloc (.cells #[.int .i64 bx, .int .i64 b_] 23)).alloc (.cells #[.slice none 0 0, .slice none 0 0] 124)) := (((HB0.out.alloc HB0.out.size _).alloc (HB0.out.alloc HB0.out.size _).size _).alloc ((HB0.out.alloc HB0.out.size _).alloc (HB0.out.alloc HB0.out.size _).size _).size _)
 have C : Below w.heap.size w (((w.alloc (.cells #[.int .i64 ax, .int .i64 ay] 23)).alloc (.cells #[.int .i64 bx, .int .i64 b_] 23)).alloc (.cells #[.slice none 0 0, .slice none 0 0] 124)) := ((((Below.refl w.heap.size w).alloc ν _).alloc (by simp; try omega) _).alloc (by simp; try omega) _)
 have X0 : Bx (((w.alloc (.cells #[.int .i64 ax, .int .i64 ay] 23)).alloc (.cells #[.int .i64 bx, .int .i64 b_] 23)).alloc (.cells #[.slice none 0 0, .slice none 0 0] 124)) (w.heap.size) #[.int .i64 ax, .int .i64 ay] 23 := by simpa using (((Bx.new w #[.int .i64 ax, .int .i64 ay] 23).alloc _).alloc _)
 have X1 : Bx (((w.alloc (.cells #[.int .i64 ax, .int .i64 ay] 23)).alloc (.cells #[.int .i64 bx, .int .i64 b_] 23)).alloc (.cells #[.slice none 0 0, .slice none 0 0] 124)) (w.heap.size + 1) #[.int .i64 bx, .int .i64 b_] 23 := by simpa using ((Bx.new (w.alloc (.cells #[.int .i64 ax, .int .i64 ay] 23)) #[.int .i64 bx, .int .i64 b_] 23).alloc _)
 have X2 : Bx (((w.alloc (.cells #[.int .i64 ax, .int .i64 ay] 23)).alloc (.cells #[.int .i64 bx, .int .i64 b_] 23)).alloc (.cells #[.slice none 0 0, .slice none 0 0] 124)) (w.heap.size + 1 + 1) #[.slice none 0 0, .slice none 0 0] 124 := by simpa using (Bx.new ((w.alloc (.cells #[.int .i64 ax, .int .i64 ay] 23)).alloc (.cells #[.int .i64 bx, .int .i64 b_] 23)) #[.slice none 0 0, .slice none 0 0] 124)
 have HB1 := η B
 have FP_1 := η X0
 have FQ_1 := η X1
 have FR_1 := η X2
 clear B C X0 X1 X2 HB0
 generalize (((w.alloc (.cells #[.int .i64 ax, .int .i64 ay] 23)).alloc (.cells #[.int .i64 bx, .int .i64 b_] 23)).alloc (.cells #[.slice none 0 0, .slice none 0 0] 124)) = w1 at *
 have RB1 := η (Je w1)
 have QS1 := η (show w1.cell? ⟨w.heap.size, 0, none⟩ = some (.int .i64 ax) ∧ w1.cell? ⟨w.heap.size, 1, none⟩ = some (.int .i64 ay) ∧ w1.cell? ⟨w.heap.size + 1, 0, none⟩ = some (.int .i64 bx) ∧ w1.cell? ⟨w.heap.size + 1, 1, none⟩ = some (.int .i64 b_) from ⟨FP_1.out.cell 0 (v := .int .i64 ax) rfl, FP_1.out.cell 1 (v := .int .i64 ay) rfl, FQ_1.out.cell 0 (v := .int .i64 bx) rfl, FQ_1.out.cell 1 (v := .int .i64 b_) rfl⟩)
 have QF1 := η (show ∀ w', Below w1.heap.size w1 w' → w'.cell? ⟨w.heap.size, 0, none⟩ = some (.int .i64 ax) ∧ w'.cell? ⟨w.heap.size, 1, none⟩ = some (.int .i64 ay) ∧ w'.cell? ⟨w.heap.size + 1, 0, none⟩ = some (.int .i64 bx) ∧ w'.cell? ⟨w.heap.size + 1, 1, none⟩ = some (.int .i64 b_) from fun w' hb => ⟨(FP_1.out.below hb ν).cell 0 (v := .int .i64 ax) rfl, (FP_1.out.below hb ν).cell 1 (v := .int .i64 ay) rfl, (FQ_1.out.below hb ν).cell 0 (v := .int .i64 bx) rfl, (FQ_1.out.below hb ν).cell 1 (v := .int .i64 b_) rfl⟩)
 go_region_held3 (fun w' => w'.cell? ⟨w.heap.size, 0, none⟩ = some (.int .i64 ax) ∧ w'.cell? ⟨w.heap.size, 1, none⟩ = some (.int .i64 ay) ∧ w'.cell? ⟨w.heap.size + 1, 0, none⟩ = some (.int .i64 bx) ∧ w'.cell? ⟨w.heap.size + 1, 1, none⟩ = some (.int .i64 b_)) (first | with_reducible exact QF1.out _ RB3.out | with_reducible exact QF1.out _ RB2.out | with_reducible exact QS1.out | with_reducible exact QF1.out _ RB1.out | with_reducible exact ⟨Jc (Jc (QF1.out _ RB3.out).1 (by simp <;> omega)) (by simp <;> omega), Jc (Jc (QF1.out _ RB3.out).2.1 (by simp <;> omega)) (by simp <;> omega), Jc (Jc (QF1.out _ RB3.out).2.2.1 (by simp <;> omega)) (by simp <;> omega), Jc (Jc (QF1.out _ RB3.out).2.2.2 (by simp <;> omega)) (by simp <;> omega)⟩) (first
   | (go_at_call 107; have := RB2; clear this; refine (Zbk b_ ay h4 h2 _).mono ?_; rintro e w3 ⟨⟨A2, c2, rfl, S2⟩, B⟩; have RB3 := η (RB2.out.trans (B.mono RB2.out.size)); have RV1_3 := η (RV1_2.out.below B ν); have RV2_3 := η S2; clear B S2; have q0 := (FR_1.out.below RB3.out ν).cell 0 (v := .slice none 0 0) rfl; have q1 := (FR_1.out.below RB3.out ν).cell 1 (v := .slice none 0 0) rfl; have q2 := (FR_1.out.below RB3.out ν).free 0; have q3 := (FR_1.out.below RB3.out ν).free 1)
   | (go_at_call 107; have := RB1; clear this; refine (Zbk bx ax h3 h1 _).mono ?_; rintro e w2 ⟨⟨A1, c1, rfl, S1⟩, B⟩; have RB2 := η (RB1.out.trans (B.mono RB1.out.size)); have RV1_2 := η S1; clear B S1))
 have FP_3 := η (FP_1.out.below RB3.out ν)
 have FQ_3 := η (FQ_1.out.below RB3.out ν)
 have FR_3 := η (FR_1.out.below RB3.out ν)
 have HB3 := η (HB1.out.trans (RB3.out.mono HB1.out.size))
 clear HB1 FP_1 FQ_1 FR_1
 go_wp2_with fail
 have r1 := FR_3.out.set 0 (.slice A1 2 c1)
 refine bodyPost_ret (v := .agg #[.slice A1 2 c1, .slice A2 2 c2]) (by simp [results, Tryz.results76, go_sem, q0, q1]) rfl ⟨⟨A1, c1, A2, c2, rfl, (RV1_3.out.set FR_3.out (by simp)).set r1 (by simp), (RV2_3.out.set FR_3.out (by simp)).set r1 (by simp)⟩, ?_⟩
 exact (HB3.out.setCell (p := ⟨w.heap.size + 1 + 1, 0, none⟩) (by simp <;> omega) _).setCell (p := ⟨w.heap.size + 1 + 1, 1, none⟩) (by simp <;> omega) _
theorem ZfJ (A : Option Addr) (n c : Nat) (A' : Option Addr) (n' c' : Nat) (w : World) :
  Calls Tryz.prog 104 #[.agg #[.slice A n c, .slice A' n' c']] w fun e w' => e = .returned (.agg #[.slice A' n' c', .slice A n c]) ∧ Below w.heap.size w w' := by
 go_enter Tryz.func104, Tryz.ntmps104
 go_wp2
 exact bodyPost_ret (v := .agg #[.slice A' n' c', .slice A n c]) (by simp [results, Tryz.results104, go_sem]) rfl ⟨rfl, ((Below.refl w.heap.size w).alloc ν _).alloc (by simp) _⟩
theorem Zha (A : Option Addr) (n c : Nat) (A' : Option Addr) (n' c' : Nat) (w : World) :
  Calls Tryz.prog 176 #[.agg #[.slice A n c, .slice A' n' c']] w fun e w' => e = .returned (.agg #[.slice A n c, .slice A' n' c']) ∧ Below w.heap.size w w' := by
 go_enter Tryz.func176, Tryz.ntmps176
 go_wp2
 exact bodyPost_ret (v := .agg #[.slice A n c, .slice A' n' c']) (by simp [results, Tryz.results176, go_sem]) rfl ⟨rfl, ((Below.refl w.heap.size w).alloc ν _).alloc (by simp) _⟩
set_option maxHeartbeats 1000000 in
theorem Zdh (A A' : Option Addr) (n c c' : Nat) (x y : Int) (w : World) (ha : Sl w .u64 A n c (lmb x)) (hb : Sl w .u64 A' n c' (lmb y)) (hn : isN n = true) :
  Calls Tryz.prog 105 #[.slice A n c, .slice A' n c'] w fun e w' => (∃ A2 c2, e = .returned (.slice A2 n c2) ∧ Sl w' .u64 A2 n c2 (lmb (x - y))) ∧ Below w.heap.size w w' := by
 have HB0 := η (Below.refl w.heap.size w)
 have FA := η ha
 have FB := η hb
 clear ha hb
 go_enter Tryz.func105, Tryz.ntmps105
 go_wp2_with fail
 refine (Zf1 _ _ _ _ _ _ _ _ FA.out FB.out hn).mono ?_
 rintro e w1 ⟨A2, c2, rfl, SC, B⟩
 have HB1 := η (HB0.out.trans (B.mono HB0.out.size))
 have FA_1 := η (FA.out.below B ν)
 have FB_1 := η (FB.out.below B ν)
 have FC_1 := η SC
 clear B SC HB0 FA FB
 go_wp2_with fail
 go_ret
 exact ⟨⟨_, _, rfl, FC_1.out⟩, HB1.out⟩
set_option maxHeartbeats 1000000 in
theorem Zeq (A A' : Option Addr) (n c c' : Nat) (x y : Int) (w : World) (ha : Sl w .u64 A n c (lmb x)) (hb : Sl w .u64 A' n c' (lmb y)) (hn : isN n = true) :
  Calls Tryz.prog 177 #[.slice A n c, .slice A' n c'] w fun e w' => (∃ A2 c2, e = .returned (.slice A2 n c2) ∧ Sl w' .u64 A2 n c2 (lmb (x + y))) ∧ Below w.heap.size w w' := by
 have HB0 := η (Below.refl w.heap.size w)
 have FA := η ha
 have FB := η hb
 clear ha hb
 go_enter Tryz.func177, Tryz.ntmps177
 go_wp2_with fail
 refine (ZbP _ _ _ _ _ _ _ _ FA.out FB.out hn).mono ?_
 rintro e w1 ⟨A2, c2, rfl, SC, B⟩
 have HB1 := η (HB0.out.trans (B.mono HB0.out.size))
 have FA_1 := η (FA.out.below B ν)
 have FB_1 := η (FB.out.below B ν)
 have FC_1 := η SC
 clear B SC HB0 FA FB
 go_wp2_with fail
 go_ret
 exact ⟨⟨_, _, rfl, FC_1.out⟩, HB1.out⟩
set_option maxHeartbeats 1000000 in
theorem Zc5 (A1 A2 A3 A4 : Option Addr) (c1 c2 c3 c4 : Nat) (x1 y1 x2 y2 : Int) (w : World) (a1 : Sl w .u64 A1 2 c1 (lmb x1)) (a2 : Sl w .u64 A2 2 c2 (lmb y1)) (a3 : Sl w .u64 A3 2 c3 (lmb x2)) (a4 : Sl w .u64 A4 2 c4 (lmb y2)) (f1 : Fit 2 x1) (f2 : Fit 2 y1) (f3 : Fit 2 x2) (f4 : Fit 2 y2) :
  Calls Tryz.prog 103 #[.agg #[.slice A1 2 c1, .slice A2 2 c2], .agg #[.slice A3 2 c3, .slice A4 2 c4], .func (.func 104) #[] #[], .func (.func 105) #[] #[]] w fun e w' => (∃ A c, e = .returned (.slice A 4 c) ∧ Sl w' .u64 A 4 c (lmb (x1 * y2 - y1 * x2))) ∧ Below w.heap.size w w' := by
 have HB0 := η (Below.refl w.heap.size w)
 have FS1 := η a1
 have FS2 := η a2
 have FS3 := η a3
 have FS4 := η a4
 clear a1 a2 a3 a4
 go_enter Tryz.func103, Tryz.ntmps103
 go_wp2_with fail
 have B : Below w.heap.size w (((w.alloc (.cells #[.slice A1 2 c1, .slice A2 2 c2] 124)).alloc (.cells #[.slice A3 2 c3, .slice A4 2 c4] 124)).alloc (.cells #[.slice A1 2 c1, .slice A2 2 c2, .slice A3 2 c3, .slice A4 2 c4] 124)) := (((HB0.out.alloc HB0.out.size _).alloc (HB0.out.alloc HB0.out.size _).size _).alloc ((HB0.out.alloc HB0.out.size _).alloc (HB0.out.alloc HB0.out.size _).size _).size _)
 have C : Below w.heap.size w (((w.alloc (.cells #[.slice A1 2 c1, .slice A2 2 c2] 124)).alloc (.cells #[.slice A3 2 c3, .slice A4 2 c4] 124)).alloc (.cells #[.slice A1 2 c1, .slice A2 2 c2, .slice A3 2 c3, .slice A4 2 c4] 124)) := ((((Below.refl w.heap.size w).alloc ν _).alloc (by simp; try omega) _).alloc (by simp; try omega) _)
 have X0 : Bx (((w.alloc (.cells #[.slice A1 2 c1, .slice A2 2 c2] 124)).alloc (.cells #[.slice A3 2 c3, .slice A4 2 c4] 124)).alloc (.cells #[.slice A1 2 c1, .slice A2 2 c2, .slice A3 2 c3, .slice A4 2 c4] 124)) (w.heap.size) #[.slice A1 2 c1, .slice A2 2 c2] 124 := by simpa using (((Bx.new w #[.slice A1 2 c1, .slice A2 2 c2] 124).alloc _).alloc _)
 have X1 : Bx (((w.alloc (.cells #[.slice A1 2 c1, .slice A2 2 c2] 124)).alloc (.cells #[.slice A3 2 c3, .slice A4 2 c4] 124)).alloc (.cells #[.slice A1 2 c1, .slice A2 2 c2, .slice A3 2 c3, .slice A4 2 c4] 124)) (w.heap.size + 1) #[.slice A3 2 c3, .slice A4 2 c4] 124 := by simpa using ((Bx.new (w.alloc (.cells #[.slice A1 2 c1, .slice A2 2 c2] 124)) #[.slice A3 2 c3, .slice A4 2 c4] 124).alloc _)
 have X2 : Bx (((w.alloc (.cells #[.slice A1 2 c1, .slice A2 2 c2] 124)).alloc (.cells #[.slice A3 2 c3, .slice A4 2 c4] 124)).alloc (.cells #[.slice A1 2 c1, .slice A2 2 c2, .slice A3 2 c3, .slice A4 2 c4] 124)) (w.heap.size + 1 + 1) #[.slice A1 2 c1, .slice A2 2 c2, .slice A3 2 c3, .slice A4 2 c4] 124 := by simpa using (Bx.new ((w.alloc (.cells #[.slice A1 2 c1, .slice A2 2 c2] 124)).alloc (.cells #[.slice A3 2 c3, .slice A4 2 c4] 124)) #[.slice A1 2 c1, .slice A2 2 c2, .slice A3 2 c3, .slice A4 2 c4] 124)
 have FS1_1 := η (FS1.out.below C ν)
 have FS2_1 := η (FS2.out.below C ν)
 have FS3_1 := η (FS3.out.below C ν)
 have FS4_1 := η (FS4.out.below C ν)
 have HB1 := η B
 have FU_1 := η X0
 have FV_1 := η X1
 have FL_1 := η X2
 clear B C X0 X1 X2 HB0 FS1 FS2 FS3 FS4
 generalize (((w.alloc (.cells #[.slice A1 2 c1, .slice A2 2 c2] 124)).alloc (.cells #[.slice A3 2 c3, .slice A4 2 c4] 124)).alloc (.cells #[.slice A1 2 c1, .slice A2 2 c2, .slice A3 2 c3, .slice A4 2 c4] 124)) = w1 at *
 skip
 refine (Zf2 _ A1 2 c1 A2 2 c2 A3 2 c3 A4 2 c4 _ (by decide) (by decide) (by decide) (by decide) (FL_1.out.cell 0 (v := .slice A1 2 c1) rfl) (FL_1.out.cell 1 (v := .slice A2 2 c2) rfl) (FL_1.out.cell 2 (v := .slice A3 2 c3) rfl) (FL_1.out.cell 3 (v := .slice A4 2 c4) rfl)).mono ?_
 rintro e w2 ⟨rfl, B⟩
 have HB2 := η (HB1.out.trans (B.mono HB1.out.size))
 have FS1_2 := η (FS1_1.out.below B ν)
 have FS2_2 := η (FS2_1.out.below B ν)
 have FS3_2 := η (FS3_1.out.below B ν)
 have FS4_2 := η (FS4_1.out.below B ν)
 have FU_2 := η (FU_1.out.below B ν)
 have FV_2 := η (FV_1.out.below B ν)
 have FL_2 := η (FL_1.out.below B ν)
 clear B  HB1 FS1_1 FS2_1 FS3_1 FS4_1 FU_1 FV_1 FL_1
 rw [show (vB 2 2 && vB 2 2) = true from rfl]
 have hv0 := FV_2.out.cell 0 (v := .slice A3 2 c3) rfl
 have hv1 := FV_2.out.cell 1 (v := .slice A4 2 c4) rfl
 go_wp2_with fail
 refine (ZfJ _ _ _ _ _ _ _).mono ?_
 rintro e w3 ⟨rfl, B⟩
 have HB3 := η (HB2.out.trans (B.mono HB2.out.size))
 have FS1_3 := η (FS1_2.out.below B ν)
 have FS2_3 := η (FS2_2.out.below B ν)
 have FS3_3 := η (FS3_2.out.below B ν)
 have FS4_3 := η (FS4_2.out.below B ν)
 have FU_3 := η (FU_2.out.below B ν)
 have FV_3 := η (FV_2.out.below B ν)
 clear B  HB2 FS1_2 FS2_2 FS3_2 FS4_2 FU_2 FV_2
 clear hv0 hv1
 go_wp2_with fail
 have B : Below w.heap.size w (w3.alloc (.cells #[.slice A4 2 c4, .slice A3 2 c3] 124)) := (HB3.out.alloc HB3.out.size _)
 have C : Below w3.heap.size w3 (w3.alloc (.cells #[.slice A4 2 c4, .slice A3 2 c3] 124)) := ((Below.refl w3.heap.size w3).alloc ν _)
 have X0 : Bx (w3.alloc (.cells #[.slice A4 2 c4, .slice A3 2 c3] 124)) (w3.heap.size) #[.slice A4 2 c4, .slice A3 2 c3] 124 := by simpa using (Bx.new w3 #[.slice A4 2 c4, .slice A3 2 c3] 124)
 have FS1_4 := η (FS1_3.out.below C ν)
 have FS2_4 := η (FS2_3.out.below C ν)
 have FS3_4 := η (FS3_3.out.below C ν)
 have FS4_4 := η (FS4_3.out.below C ν)
 have FU_4 := η (FU_3.out.below C ν)
 have FV_4 := η (FV_3.out.below C ν)
 have HB4 := η B
 have FX_4 := η X0
 clear B C X0 HB3 FS1_3 FS2_3 FS3_3 FS4_3 FU_3 FV_3
 generalize (w3.alloc (.cells #[.slice A4 2 c4, .slice A3 2 c3] 124)) = w4 at *
 have RB4 := η (Je w4)
 have QS4 := η (show w4.cell? ⟨w.heap.size, 0, none⟩ = some (.slice A1 2 c1) ∧ w4.cell? ⟨w.heap.size, 1, none⟩ = some (.slice A2 2 c2) ∧ w4.cell? ⟨w3.heap.size, 0, none⟩ = some (.slice A4 2 c4) ∧ w4.cell? ⟨w3.heap.size, 1, none⟩ = some (.slice A3 2 c3) from ⟨FU_4.out.cell 0 (v := .slice A1 2 c1) rfl, FU_4.out.cell 1 (v := .slice A2 2 c2) rfl, FX_4.out.cell 0 (v := .slice A4 2 c4) rfl, FX_4.out.cell 1 (v := .slice A3 2 c3) rfl⟩)
 have QF4 := η (show ∀ w', Below w4.heap.size w4 w' → w'.cell? ⟨w.heap.size, 0, none⟩ = some (.slice A1 2 c1) ∧ w'.cell? ⟨w.heap.size, 1, none⟩ = some (.slice A2 2 c2) ∧ w'.cell? ⟨w3.heap.size, 0, none⟩ = some (.slice A4 2 c4) ∧ w'.cell? ⟨w3.heap.size, 1, none⟩ = some (.slice A3 2 c3) from fun w' hb => ⟨(FU_4.out.below hb ν).cell 0 (v := .slice A1 2 c1) rfl, (FU_4.out.below hb ν).cell 1 (v := .slice A2 2 c2) rfl, (FX_4.out.below hb ν).cell 0 (v := .slice A4 2 c4) rfl, (FX_4.out.below hb ν).cell 1 (v := .slice A3 2 c3) rfl⟩)
 go_region_held3 (fun w' => w'.cell? ⟨w.heap.size, 0, none⟩ = some (.slice A1 2 c1) ∧ w'.cell? ⟨w.heap.size, 1, none⟩ = some (.slice A2 2 c2) ∧ w'.cell? ⟨w3.heap.size, 0, none⟩ = some (.slice A4 2 c4) ∧ w'.cell? ⟨w3.heap.size, 1, none⟩ = some (.slice A3 2 c3)) (first | with_reducible exact QF4.out _ RB7.out | with_reducible exact QF4.out _ RB6.out | with_reducible exact QF4.out _ RB5.out | with_reducible exact QS4.out | with_reducible exact QF4.out _ RB4.out) (first
   | (go_at_call 105; have := RB6; clear this; refine (Zdh P1 P2 4 q1 q2 (x1 * y2) (y1 * x2) _ RM1_6.out RM2_6.out rfl).mono ?_; rintro e w7 ⟨⟨P3, q3, rfl, M3⟩, B⟩; have RB7 := η (RB6.out.trans (B.mono RB6.out.size)); have RM1_7 := η (RM1_6.out.below B ν); have RM2_7 := η (RM2_6.out.below B ν); have RM3_7 := η M3; clear B M3)
   | (go_at_call 127; have := RB5; clear this; refine (Zaq A2 A3 2 c2 2 c3 y1 x2 _ (FS2_4.out.below RB5.out ν) (FS3_4.out.below RB5.out ν) f2 f3 rfl rfl (by omega)).mono ?_; rintro e w6 ⟨P2, q2, rfl, M2, B⟩; have RB6 := η (RB5.out.trans (B.mono RB5.out.size)); have RM1_6 := η (RM1_5.out.below B ν); have RM2_6 := η (show Sl _ .u64 P2 4 q2 _ from M2); clear B M2)
   | (go_at_call 127; have := RB4; clear this; refine (Zaq A1 A4 2 c1 2 c4 x1 y2 _ (FS1_4.out.below RB4.out ν) (FS4_4.out.below RB4.out ν) f1 f4 rfl rfl (by omega)).mono ?_; rintro e w5 ⟨P1, q1, rfl, M1, B⟩; have RB5 := η (RB4.out.trans (B.mono RB4.out.size)); have RM1_5 := η (show Sl _ .u64 P1 4 q1 _ from M1); clear B M1))
 have FS1_7 := η (FS1_4.out.below RB7.out ν)
 have FS2_7 := η (FS2_4.out.below RB7.out ν)
 have FS3_7 := η (FS3_4.out.below RB7.out ν)
 have FS4_7 := η (FS4_4.out.below RB7.out ν)
 have FU_7 := η (FU_4.out.below RB7.out ν)
 have FV_7 := η (FV_4.out.below RB7.out ν)
 have FX_7 := η (FX_4.out.below RB7.out ν)
 have HB7 := η (HB4.out.trans (RB7.out.mono HB4.out.size))
 clear HB4 FS1_4 FS2_4 FS3_4 FS4_4 FU_4 FV_4 FX_4
 go_wp2_with fail
 go_ret
 exact ⟨⟨_, _, rfl, RM3_7.out⟩, HB7.out⟩
set_option maxHeartbeats 1000000 in
theorem ZcB (A1 A2 A3 A4 : Option Addr) (c1 c2 c3 c4 : Nat) (x1 y1 x2 y2 : Int) (w : World) (a1 : Sl w .u64 A1 2 c1 (lmb x1)) (a2 : Sl w .u64 A2 2 c2 (lmb y1)) (a3 : Sl w .u64 A3 2 c3 (lmb x2)) (a4 : Sl w .u64 A4 2 c4 (lmb y2)) (f1 : Fit 2 x1) (f2 : Fit 2 y1) (f3 : Fit 2 x2) (f4 : Fit 2 y2) :
  Calls Tryz.prog 103 #[.agg #[.slice A1 2 c1, .slice A2 2 c2], .agg #[.slice A3 2 c3, .slice A4 2 c4], .func (.func 176) #[] #[], .func (.func 177) #[] #[]] w fun e w' => (∃ A c, e = .returned (.slice A 4 c) ∧ Sl w' .u64 A 4 c (lmb (x1 * x2 + y1 * y2))) ∧ Below w.heap.size w w' := by
 have HB0 := η (Below.refl w.heap.size w)
 have FS1 := η a1
 have FS2 := η a2
 have FS3 := η a3
 have FS4 := η a4
 clear a1 a2 a3 a4
 go_enter Tryz.func103, Tryz.ntmps103
 go_wp2_with fail
 have B : Below w.heap.size w (((w.alloc (.cells #[.slice A1 2 c1, .slice A2 2 c2] 124)).alloc (.cells #[.slice A3 2 c3, .slice A4 2 c4] 124)).alloc (.cells #[.slice A1 2 c1, .slice A2 2 c2, .slice A3 2 c3, .slice A4 2 c4] 124)) := (((HB0.out.alloc HB0.out.size _).alloc (HB0.out.alloc HB0.out.size _).size _).alloc ((HB0.out.alloc HB0.out.size _).alloc (HB0.out.alloc HB0.out.size _).size _).size _)
 have C : Below w.heap.size w (((w.alloc (.cells #[.slice A1 2 c1, .slice A2 2 c2] 124)).alloc (.cells #[.slice A3 2 c3, .slice A4 2 c4] 124)).alloc (.cells #[.slice A1 2 c1, .slice A2 2 c2, .slice A3 2 c3, .slice A4 2 c4] 124)) := ((((Below.refl w.heap.size w).alloc ν _).alloc (by simp; try omega) _).alloc (by simp; try omega) _)
 have X0 : Bx (((w.alloc (.cells #[.slice A1 2 c1, .slice A2 2 c2] 124)).alloc (.cells #[.slice A3 2 c3, .slice A4 2 c4] 124)).alloc (.cells #[.slice A1 2 c1, .slice A2 2 c2, .slice A3 2 c3, .slice A4 2 c4] 124)) (w.heap.size) #[.slice A1 2 c1, .slice A2 2 c2] 124 := by simpa using (((Bx.new w #[.slice A1 2 c1, .slice A2 2 c2] 124).alloc _).alloc _)
 have X1 : Bx (((w.alloc (.cells #[.slice A1 2 c1, .slice A2 2 c2] 124)).alloc (.cells #[.slice A3 2 c3, .slice A4 2 c4] 124)).alloc (.cells #[.slice A1 2 c1, .slice A2 2 c2, .slice A3 2 c3, .slice A4 2 c4] 124)) (w.heap.size + 1) #[.slice A3 2 c3, .slice A4 2 c4] 124 := by simpa using ((Bx.new (w.alloc (.cells #[.slice A1 2 c1, .slice A2 2 c2] 124)) #[.slice A3 2 c3, .slice A4 2 c4] 124).alloc _)
 have X2 : Bx (((w.alloc (.cells #[.slice A1 2 c1, .slice A2 2 c2] 124)).alloc (.cells #[.slice A3 2 c3, .slice A4 2 c4] 124)).alloc (.cells #[.slice A1 2 c1, .slice A2 2 c2, .slice A3 2 c3, .slice A4 2 c4] 124)) (w.heap.size + 1 + 1) #[.slice A1 2 c1, .slice A2 2 c2, .slice A3 2 c3, .slice A4 2 c4] 124 := by simpa using (Bx.new ((w.alloc (.cells #[.slice A1 2 c1, .slice A2 2 c2] 124)).alloc (.cells #[.slice A3 2 c3, .slice A4 2 c4] 124)) #[.slice A1 2 c1, .slice A2 2 c2, .slice A3 2 c3, .slice A4 2 c4] 124)
 have FS1_1 := η (FS1.out.below C ν)
 have FS2_1 := η (FS2.out.below C ν)
 have FS3_1 := η (FS3.out.below C ν)
 have FS4_1 := η (FS4.out.below C ν)
 have HB1 := η B
 have FU_1 := η X0
 have FV_1 := η X1
 have FL_1 := η X2
 clear B C X0 X1 X2 HB0 FS1 FS2 FS3 FS4
 generalize (((w.alloc (.cells #[.slice A1 2 c1, .slice A2 2 c2] 124)).alloc (.cells #[.slice A3 2 c3, .slice A4 2 c4] 124)).alloc (.cells #[.slice A1 2 c1, .slice A2 2 c2, .slice A3 2 c3, .slice A4 2 c4] 124)) = w1 at *
 skip
 refine (Zf2 _ A1 2 c1 A2 2 c2 A3 2 c3 A4 2 c4 _ (by decide) (by decide) (by decide) (by decide) (FL_1.out.cell 0 (v := .slice A1 2 c1) rfl) (FL_1.out.cell 1 (v := .slice A2 2 c2) rfl) (FL_1.out.cell 2 (v := .slice A3 2 c3) rfl) (FL_1.out.cell 3 (v := .slice A4 2 c4) rfl)).mono ?_
 rintro e w2 ⟨rfl, B⟩
 have HB2 := η (HB1.out.trans (B.mono HB1.out.size))
 have FS1_2 := η (FS1_1.out.below B ν)
 have FS2_2 := η (FS2_1.out.below B ν)
 have FS3_2 := η (FS3_1.out.below B ν)
 have FS4_2 := η (FS4_1.out.below B ν)
 have FU_2 := η (FU_1.out.below B ν)
 have FV_2 := η (FV_1.out.below B ν)
 have FL_2 := η (FL_1.out.below B ν)
 clear B  HB1 FS1_1 FS2_1 FS3_1 FS4_1 FU_1 FV_1 FL_1
 rw [show (vB 2 2 && vB 2 2) = true from rfl]
 have hv0 := FV_2.out.cell 0 (v := .slice A3 2 c3) rfl
 have hv1 := FV_2.out.cell 1 (v := .slice A4 2 c4) rfl
 go_wp2_with fail
 refine (Zha _ _ _ _ _ _ _).mono ?_
 rintro e w3 ⟨rfl, B⟩
 have HB3 := η (HB2.out.trans (B.mono HB2.out.size))
 have FS1_3 := η (FS1_2.out.below B ν)
 have FS2_3 := η (FS2_2.out.below B ν)
 have FS3_3 := η (FS3_2.out.below B ν)
 have FS4_3 := η (FS4_2.out.below B ν)
 have FU_3 := η (FU_2.out.below B ν)
 have FV_3 := η (FV_2.out.below B ν)
 clear B  HB2 FS1_2 FS2_2 FS3_2 FS4_2 FU_2 FV_2
 clear hv0 hv1
 go_wp2_with fail
 have B : Below w.heap.size w (w3.alloc (.cells #[.slice A3 2 c3, .slice A4 2 c4] 124)) := (HB3.out.alloc HB3.out.size _)
 have C : Below w3.heap.size w3 (w3.alloc (.cells #[.slice A3 2 c3, .slice A4 2 c4] 124)) := ((Below.refl w3.heap.size w3).alloc ν _)
 have X0 : Bx (w3.alloc (.cells #[.slice A3 2 c3, .slice A4 2 c4] 124)) (w3.heap.size) #[.slice A3 2 c3, .slice A4 2 c4] 124 := by simpa using (Bx.new w3 #[.slice A3 2 c3, .slice A4 2 c4] 124)
 have FS1_4 := η (FS1_3.out.below C ν)
 have FS2_4 := η (FS2_3.out.below C ν)
 have FS3_4 := η (FS3_3.out.below C ν)
 have FS4_4 := η (FS4_3.out.below C ν)
 have FU_4 := η (FU_3.out.below C ν)
 have FV_4 := η (FV_3.out.below C ν)
 have HB4 := η B
 have FX_4 := η X0
 clear B C X0 HB3 FS1_3 FS2_3 FS3_3 FS4_3 FU_3 FV_3
 generalize (w3.alloc (.cells #[.slice A3 2 c3, .slice A4 2 c4] 124)) = w4 at *
 have RB4 := η (Je w4)
 have QS4 := η (show w4.cell? ⟨w.heap.size, 0, none⟩ = some (.slice A1 2 c1) ∧ w4.cell? ⟨w.heap.size, 1, none⟩ = some (.slice A2 2 c2) ∧ w4.cell? ⟨w3.heap.size, 0, none⟩ = some (.slice A3 2 c3) ∧ w4.cell? ⟨w3.heap.size, 1, none⟩ = some (.slice A4 2 c4) from ⟨FU_4.out.cell 0 (v := .slice A1 2 c1) rfl, FU_4.out.cell 1 (v := .slice A2 2 c2) rfl, FX_4.out.cell 0 (v := .slice A3 2 c3) rfl, FX_4.out.cell 1 (v := .slice A4 2 c4) rfl⟩)
 have QF4 := η (show ∀ w', Below w4.heap.size w4 w' → w'.cell? ⟨w.heap.size, 0, none⟩ = some (.slice A1 2 c1) ∧ w'.cell? ⟨w.heap.size, 1, none⟩ = some (.slice A2 2 c2) ∧ w'.cell? ⟨w3.heap.size, 0, none⟩ = some (.slice A3 2 c3) ∧ w'.cell? ⟨w3.heap.size, 1, none⟩ = some (.slice A4 2 c4) from fun w' hb => ⟨(FU_4.out.below hb ν).cell 0 (v := .slice A1 2 c1) rfl, (FU_4.out.below hb ν).cell 1 (v := .slice A2 2 c2) rfl, (FX_4.out.below hb ν).cell 0 (v := .slice A3 2 c3) rfl, (FX_4.out.below hb ν).cell 1 (v := .slice A4 2 c4) rfl⟩)
 go_region_held3 (fun w' => w'.cell? ⟨w.heap.size, 0, none⟩ = some (.slice A1 2 c1) ∧ w'.cell? ⟨w.heap.size, 1, none⟩ = some (.slice A2 2 c2) ∧ w'.cell? ⟨w3.heap.size, 0, none⟩ = some (.slice A3 2 c3) ∧ w'.cell? ⟨w3.heap.size, 1, none⟩ = some (.slice A4 2 c4)) (first | with_reducible exact QF4.out _ RB7.out | with_reducible exact QF4.out _ RB6.out | with_reducible exact QF4.out _ RB5.out | with_reducible exact QS4.out | with_reducible exact QF4.out _ RB4.out) (first
   | (go_at_call 177; have := RB6; clear this; refine (Zeq P1 P2 4 q1 q2 (x1 * x2) (y1 * y2) _ RM1_6.out RM2_6.out rfl).mono ?_; rintro e w7 ⟨⟨P3, q3, rfl, M3⟩, B⟩; have RB7 := η (RB6.out.trans (B.mono RB6.out.size)); have RM1_7 := η (RM1_6.out.below B ν); have RM2_7 := η (RM2_6.out.below B ν); have RM3_7 := η M3; clear B M3)
   | (go_at_call 127; have := RB5; clear this; refine (Zaq A2 A4 2 c2 2 c4 y1 y2 _ (FS2_4.out.below RB5.out ν) (FS4_4.out.below RB5.out ν) f2 f4 rfl rfl (by omega)).mono ?_; rintro e w6 ⟨P2, q2, rfl, M2, B⟩; have RB6 := η (RB5.out.trans (B.mono RB5.out.size)); have RM1_6 := η (RM1_5.out.below B ν); have RM2_6 := η (show Sl _ .u64 P2 4 q2 _ from M2); clear B M2)
   | (go_at_call 127; have := RB4; clear this; refine (Zaq A1 A3 2 c1 2 c3 x1 x2 _ (FS1_4.out.below RB4.out ν) (FS3_4.out.below RB4.out ν) f1 f3 rfl rfl (by omega)).mono ?_; rintro e w5 ⟨P1, q1, rfl, M1, B⟩; have RB5 := η (RB4.out.trans (B.mono RB4.out.size)); have RM1_5 := η (show Sl _ .u64 P1 4 q1 _ from M1); clear B M1))
 have FS1_7 := η (FS1_4.out.below RB7.out ν)
 have FS2_7 := η (FS2_4.out.below RB7.out ν)
 have FS3_7 := η (FS3_4.out.below RB7.out ν)
 have FS4_7 := η (FS4_4.out.below RB7.out ν)
 have FU_7 := η (FU_4.out.below RB7.out ν)
 have FV_7 := η (FV_4.out.below RB7.out ν)
 have FX_7 := η (FX_4.out.below RB7.out ν)
 have HB7 := η (HB4.out.trans (RB7.out.mono HB4.out.size))
 clear HB4 FS1_4 FS2_4 FS3_4 FS4_4 FU_4 FV_4 FX_4
 go_wp2_with fail
 go_ret
 exact ⟨⟨_, _, rfl, RM3_7.out⟩, HB7.out⟩
set_option maxHeartbeats 1000000 in
theorem Zb1 (A1 A2 A3 A4 : Option Addr) (c1 c2 c3 c4 : Nat) (x1 y1 x2 y2 : Int) (w : World) (a1 : Sl w .u64 A1 2 c1 (lmb x1)) (a2 : Sl w .u64 A2 2 c2 (lmb y1)) (a3 : Sl w .u64 A3 2 c3 (lmb x2)) (a4 : Sl w .u64 A4 2 c4 (lmb y2)) (f1 : Fit 2 x1) (f2 : Fit 2 y1) (f3 : Fit 2 x2) (f4 : Fit 2 y2) :
  Calls Tryz.prog 75 #[.agg #[.slice A1 2 c1, .slice A2 2 c2], .agg #[.slice A3 2 c3, .slice A4 2 c4]] w fun e w' => (∃ A c, e = .returned (.slice A 4 c) ∧ Sl w' .u64 A 4 c (lmb (x1 * y2 - y1 * x2))) ∧ Below w.heap.size w w' := by
 have HB0 := η (Below.refl w.heap.size w)
 have FS1 := η a1
 have FS2 := η a2
 have FS3 := η a3
 have FS4 := η a4
 clear a1 a2 a3 a4
 go_enter Tryz.func75, Tryz.ntmps75
 go_wp2_with fail
 refine (Zc5 _ _ _ _ _ _ _ _ _ _ _ _ _ ((FS1.out.alloc _).alloc _) ((FS2.out.alloc _).alloc _) ((FS3.out.alloc _).alloc _) ((FS4.out.alloc _).alloc _) f1 f2 f3 f4).mono ?_
 rintro e w1 ⟨⟨A5, c5, rfl, S5⟩, B⟩
 have HB1 := η (((HB0.out.alloc HB0.out.size _).alloc (HB0.out.alloc HB0.out.size _).size _).trans (B.mono ((HB0.out.alloc HB0.out.size _).alloc (HB0.out.alloc HB0.out.size _).size _).size))
 have FS1_1 := η (((FS1.out.alloc _).alloc _).below B ν)
 have FS2_1 := η (((FS2.out.alloc _).alloc _).below B ν)
 have FS3_1 := η (((FS3.out.alloc _).alloc _).below B ν)
 have FS4_1 := η (((FS4.out.alloc _).alloc _).below B ν)
 have FS5_1 := η S5
 clear B S5 HB0 FS1 FS2 FS3 FS4
 go_wp2_with fail
 go_ret
 exact ⟨⟨_, _, rfl, FS5_1.out⟩, HB1.out⟩
set_option maxHeartbeats 1000000 in
theorem ZhV (A1 A2 A3 A4 : Option Addr) (c1 c2 c3 c4 : Nat) (x1 y1 x2 y2 : Int) (w : World) (a1 : Sl w .u64 A1 2 c1 (lmb x1)) (a2 : Sl w .u64 A2 2 c2 (lmb y1)) (a3 : Sl w .u64 A3 2 c3 (lmb x2)) (a4 : Sl w .u64 A4 2 c4 (lmb y2)) (f1 : Fit 2 x1) (f2 : Fit 2 y1) (f3 : Fit 2 x2) (f4 : Fit 2 y2) :
  Calls Tryz.prog 173 #[.agg #[.slice A1 2 c1, .slice A2 2 c2], .agg #[.slice A3 2 c3, .slice A4 2 c4]] w fun e w' => (∃ A c, e = .returned (.slice A 4 c) ∧ Sl w' .u64 A 4 c (lmb (x1 * x2 + y1 * y2))) ∧ Below w.heap.size w w' := by
 have HB0 := η (Below.refl w.heap.size w)
 have FS1 := η a1
 have FS2 := η a2
 have FS3 := η a3
 have FS4 := η a4
 clear a1 a2 a3 a4
 go_enter Tryz.func173, Tryz.ntmps173
 go_wp2_with fail
 refine (ZcB _ _ _ _ _ _ _ _ _ _ _ _ _ ((FS1.out.alloc _).alloc _) ((FS2.out.alloc _).alloc _) ((FS3.out.alloc _).alloc _) ((FS4.out.alloc _).alloc _) f1 f2 f3 f4).mono ?_
 rintro e w1 ⟨⟨A5, c5, rfl, S5⟩, B⟩
 have HB1 := η (((HB0.out.alloc HB0.out.size _).alloc (HB0.out.alloc HB0.out.size _).size _).trans (B.mono ((HB0.out.alloc HB0.out.size _).alloc (HB0.out.alloc HB0.out.size _).size _).size))
 have FS1_1 := η (((FS1.out.alloc _).alloc _).below B ν)
 have FS2_1 := η (((FS2.out.alloc _).alloc _).below B ν)
 have FS3_1 := η (((FS3.out.alloc _).alloc _).below B ν)
 have FS4_1 := η (((FS4.out.alloc _).alloc _).below B ν)
 have FS5_1 := η S5
 clear B S5 HB0 FS1 FS2 FS3 FS4
 go_wp2_with fail
 go_ret
 exact ⟨⟨_, _, rfl, FS5_1.out⟩, HB1.out⟩
set_option maxHeartbeats 1000000 in
theorem Zcf (A1 A2 : Option Addr) (c1 c2 : Nat) (x1 y1 : Int) (w : World) (a1 : Sl w .u64 A1 2 c1 (lmb x1)) (a2 : Sl w .u64 A2 2 c2 (lmb y1)) (f1 : Fit 2 x1) (f2 : Fit 2 y1) :
  Calls Tryz.prog 169 #[.agg #[.slice A1 2 c1, .slice A2 2 c2]] w fun e w' => (∃ A c, e = .returned (.slice A 4 c) ∧ Sl w' .u64 A 4 c (lmb (x1 * x1 + y1 * y1))) ∧ Below w.heap.size w w' := by
 have HB0 := η (Below.refl w.heap.size w)
 have FS1 := η a1
 have FS2 := η a2
 clear a1 a2
 go_enter Tryz.func169, Tryz.ntmps169
 go_wp2_with fail
 refine (ZhV _ _ _ _ _ _ _ _ _ _ _ _ _ (FS1.out.alloc _) (FS2.out.alloc _) (FS1.out.alloc _) (FS2.out.alloc _) f1 f2 f1 f2).mono ?_
 rintro e w1 ⟨⟨A5, c5, rfl, S5⟩, B⟩
 have HB1 := η ((HB0.out.alloc HB0.out.size _).trans (B.mono (HB0.out.alloc HB0.out.size _).size))
 have FS1_1 := η ((FS1.out.alloc _).below B ν)
 have FS2_1 := η ((FS2.out.alloc _).below B ν)
 have FS5_1 := η S5
 clear B S5 HB0 FS1 FS2
 go_wp2_with fail
 go_ret
 exact ⟨⟨_, _, rfl, FS5_1.out⟩, HB1.out⟩
def uni (f : Nat → Int) : Nat → Int
 | 0 => 0
 | k + 1 => bits .or .u64 (uni f k) (f k)
theorem Zhb {a b : Int} (ha : IsW a) (hb : IsW b) : bits .or .u64 a b = 0 ↔ a = 0 ∧ b = 0 := by
 unfold IsW at *
 rw [u64_or a b ha.1 ha.2 hb.1 hb.2]
 have := Nat.or_eq_zero_iff (n := a.toNat) (m := b.toNat)
 omega
theorem ZgB (f : Nat → Int) : ∀ n, (∀ i, i < n → IsW (f i)) → IsW (uni f n) ∧ (uni f n = 0 ↔ ∀ i, i < n → f i = 0)
 | 0, _ => ⟨by unfold IsW uni; omega, by simp [uni]⟩
 | n + 1, h => by
  obtain ⟨h1, h2⟩ := ZgB f n (fun i hi => h i (by omega))
  have hn := h n (by omega)
  refine ⟨or_w h1 hn, ?_⟩
  unfold uni
  rw [Zhb h1 hn, h2]
  constructor
  ·intro ⟨h3, h4⟩ i hi
   by_cases hin : i < n
   ·exact h3 i hin
   ·rw [show i = n from by omega]; exact h4
  ·intro h3
   exact ⟨fun i hi => h3 i (by omega), h3 n (by omega)⟩
theorem Zjy {n : Nat} {x : Int} (h : Fit n x) : sgnM (decide (x < 0)) (decide (uni (lmb x) n = 0)) = sg x := by
 unfold sg
 have hu := (ZgB (lmb x) n (fun i _ => isW_lmb x i)).2
 have hz : uni (lmb x) n = 0 ↔ x = 0 := by
  rw [hu]
  exact ⟨fun h0 => zero_of_lmb h h0, fun h0 i _ => by rw [h0, lmb_zero]⟩
 have e : decide (uni (lmb x) n = 0) = decide (x = 0) := decide_eq_decide.2 hz
 rw [e]
 unfold sgnM
 rcases (by omega : x < 0 ∨ x = 0 ∨ 0 < x) with h1 | h1 | h1
 ·simp [h1, Int.sign_eq_neg_one_of_neg h1]
 ·subst h1; simp
 ·rw [Int.sign_eq_one_of_pos h1]; simp; omega
theorem Ze5 (A : Option Addr) (n c : Nat) (x : Int) (w : World) (ha : Sl w .u64 A n c (lmb x)) (hx : Fit n x) (hn : isN n = true) (hT : TabM w) :
  Calls Tryz.prog 49 #[.slice A n c] w fun e w' => e = .returned (.int .i64 (sg x)) ∧ Below w.heap.size w w' := by
 have hn' := Zap hn
 have hmax := ha.max; have hcap := ha.cap
 obtain ⟨b, off, rfl, hlt, hc⟩ := ha.at_ (by omega)
 have hs := Zjy hx
 have hu := ZgB (lmb x) n (fun i _ => isW_lmb x i)
 have htop : decide (9223372036854775808 ≤ lmb x (n - 1)) = decide (x < 0) := by
  obtain ⟨k, rfl⟩ : ∃ k, n = k + 1 := ⟨n - 1, by omega⟩
  rw [Nat.add_sub_cancel, decide_eq_decide.2 (top_neg hx)]
 have HN := η hn; have HC := η hc; have HS := η hs; have HU := η hu.1; have HT := η hT; have HP := η htop
 have hb0 : Below w.heap.size w (w.alloc (.cells #[.slice (some ⟨b, off, none⟩) n c] 93)) := (Below.refl w.heap.size w).alloc ν _
 have HB0 := η hb0
 clear hn hc hs hu hT ha hx htop hb0
 go_enter Tryz.func49, Tryz.ntmps49
 go_wp2_with fail
 refine (ZeX _ (some ⟨b, off, none⟩) n c (by omega) _ (by simp [go_sem])).mono ?_
 rintro e w1 ⟨rfl, rfl⟩
 rw [HN.out]
 go_wp2_with fail
 obtain ⟨w1, hw1⟩ : ∃ w1, w1 = w.alloc (.cells #[.slice (some ⟨b, off, none⟩) n c] 93) := ⟨_, rfl⟩
 rw [← hw1] at HB0 ⊢
 clear hw1
 go_loop [3, 12] (fun u i => ∃ k : Nat, k ≤ n ∧ i = .int .i64 k ∧ u = .int .u64 (uni (lmb x) k)) (fun _ i => n - (intOf i).toNat)
 case atStart => exact ⟨0, Nat.zero_le _, rfl, rfl⟩
 case round =>
  obtain ⟨k, hk, rfl, rfl⟩ := hrel
  by_cases hlt2 : k < n
  ·have c1 : w1.cell? ⟨b, off + k, none⟩ = some (.int .u64 (lmb x k)) := (HB0.out.cell (p := ⟨b, off + k, none⟩) hlt).trans (HC.out k hlt2)
   go_wp2_with fail
   go_round
   case rel => exact ⟨k + 1, by omega, by go_num, rfl⟩
   case measure => simp [intOf]; omega
  ·obtain rfl : k = n := by omega
   have c1 : w1.cell? ⟨b, off + (k - 1), none⟩ = some (.int .u64 (lmb x (k - 1))) := (HB0.out.cell (p := ⟨b, off + (k - 1), none⟩) hlt).trans (HC.out (k - 1) (by omega))
   go_wp2_with fail
   refine (Ze0 _ (isW_lmb _ _) _).mono ?_
   rintro e w2 ⟨rfl, rfl⟩
   rw [HP.out]
   go_wp2_with fail
   refine (Zax _ HU.out _).mono ?_
   rintro e w2 ⟨rfl, rfl⟩
   go_wp2_with fail
   refine (Ze1 _ _ _ (HT.out.below HB0.out ν)).mono ?_
   rintro e w2 ⟨rfl, nq, rfl⟩
   rw [HS.out]
   go_wp2_with fail
   go_ret
   exact ⟨rfl, HB0.out.trans ⟨rfl, rfl, rfl, Nat.le_refl _, fun _ _ => rfl⟩⟩
end Go.Proofs.YtjdiilkljgljkaaGreatDoor
namespace Go.Proofs.YtjdiilkljgljkaaGreatDoor
set_option linter.unusedVariables false
set_option linter.unusedSimpArgs false
open Go.RowKit
theorem ZbQ : (Tryz.prog.info? 3).map (fun i => (i.zero, i.size, i.bytes)) = some (some (.int .i64 0), 1, 8) := by kernel_rfl
theorem ZfK (x y : Int) (i : Nat) : (Dd.lmb x i + Dd.lmb y i + Dd.car x y i) % 65536 = Dd.lmb (x + y) i ∧ (Dd.lmb x i + Dd.lmb y i + Dd.car x y i) / 65536 = Dd.car x y (i + 1) := by
 have h := Dd.add_step x y i
 have hc := Dd.car_le x y i
 rw [show Dd.car x y i % 2 = Dd.car x y i from by omega] at h
 exact h
theorem ZiK {n m : Nat} {p q : Int} (hp : Dd.Fits n p) (hq : Dd.Fits m q) {k : Nat} (hk : max n m < k) : Dd.car p q k = 0 := by
 have h1 := Dd.fits_mono hp (show n ≤ max n m by omega)
 have h2 := Dd.fits_mono hq (show m ≤ max n m by omega)
 have h3 : Dd.Fits (max n m + 1) (p + q) := by unfold Dd.Fits at *; rw [Dd.S_succ]; omega
 have h4 := Dd.fits_mono h3 (show max n m + 1 ≤ k by omega)
 have h5 := Dd.fits_mono h1 (show max n m ≤ k by omega)
 have h6 := Dd.fits_mono h2 (show max n m ≤ k by omega)
 unfold Dd.car Dd.qt
 rw [Int.ediv_eq_zero_of_lt h4.1 h4.2, Int.ediv_eq_zero_of_lt h5.1 h5.2, Int.ediv_eq_zero_of_lt h6.1 h6.2]; rfl
theorem ZhW {n m : Nat} {p q : Int} (hp : Dd.Fits n p) (hq : Dd.Fits m q) {k : Nat} (hn : n ≤ k) (hm : m ≤ k) (hc : Dd.car p q k = 0) : Dd.Fits k (p + q) := by
 have h5 := Dd.fits_mono hp hn
 have h6 := Dd.fits_mono hq hm
 have hS := Dd.S_pos k
 unfold Dd.car Dd.qt at hc
 rw [Int.ediv_eq_zero_of_lt h5.1 h5.2, Int.ediv_eq_zero_of_lt h6.1 h6.2] at hc
 unfold Dd.Fits at *
 have := Int.lt_ediv_add_one_mul_self (p + q) hS
 rw [show (p + q) / Dd.S k = 0 from by omega] at this
 omega
set_option maxHeartbeats 1000000 in
theorem ZdG (A A' : Option Addr) (n c m c' : Nat) (p q : Int) (w : World) (ha : Sl w .i64 A n c (Dd.lmb p)) (hp : Dd.Fits n p) (hb : Sl w .i64 A' m c' (Dd.lmb q)) (hq : Dd.Fits m q) (hn : n ≤ 100000) (hm : m ≤ 100000) :
  Calls Tryz.prog 60 #[.slice A n c, .slice A' m c'] w fun e w' => (∃ A2 k c2, e = .returned (.slice A2 k c2) ∧ k ≤ max n m + 1 ∧ Sl w' .i64 A2 k c2 (Dd.lmb (p + q)) ∧ Dd.Fits k (p + q) ∧ Ty w' A2) ∧ Below w.heap.size w w' := by
 obtain ⟨i0, hi0, hz0, hz1, hz2⟩ := info_parts ZbQ
 have HA := η ha; have HP := η hp; have HB := η hb; have HQ := η hq
 clear ha hp hb hq
 go_enter Tryz.func60, Tryz.ntmps60
 go_wp2_with fail
 go_loopw [5, 6, 7] (fun v cr i wr => ∃ k : Nat, k ≤ max n m + 1 ∧ i = .int .i64 k ∧ cr = .int .i64 (Dd.car p q k) ∧ wr.ownsRow w.heap.size 3 1 v k (row .i64 (Dd.lmb (p + q)) k) ∧ Below w.heap.size w wr)
  (fun _ _ i _ => max n m + 1 - (intOf i).toNat)
 case atStart => exact ⟨0, Nat.zero_le _, rfl, by rw [Dd.car_zero], World.ownsRow_nil _ _ _ _, Below.refl _ _⟩
 case round =>
  obtain ⟨k, hk, rfl, rfl, hown, hbr⟩ := hrel
  have hcb := Dd.car_le p q k
  have hce : max n m < k → Dd.car p q k = 0 := fun h => ZiK HP.out HQ.out h
  by_cases hgo : k < n ∨ k < m ∨ 0 < Dd.car p q k
  ·have hkb : k ≤ max n m := by
    rcases (by omega : k ≤ max n m ∨ max n m < k) with h | h
    ·exact h
    ·have := hce h; omega
   have hst := ZfK p q k
   have r1 := Dd.lmb_range p k; have r2 := Dd.lmb_range q k
   have ha' := HA.out.below hbr ν; have hb' := HB.out.below hbr ν
   have HA' := η ha'; have HB' := η hb'; have HST := η hst
   have HOW := η hown; have HBR := η hbr
   clear hown hbr ha' hb' hst hce
   rcases (by omega : k < n ∨ (¬ k < n ∧ k < m) ∨ (¬ k < n ∧ ¬ k < m ∧ 0 < Dd.car p q k)) with h | h | h
   all_goals
    clear hgo
    go_wp2_with fail
    refine (ZbM A n c p k _ HA'.out HP.out (by omega)).mono ?_
    rintro e w1 ⟨rfl, rfl⟩
    go_wp2_with fail
    refine (ZbM A' m c' q k _ HB'.out HQ.out (by omega)).mono ?_
    rintro e w1 ⟨rfl, rfl⟩
    go_wp2_with (at_builtin; refine wpList_append_own _ rfl _ _ 39 rfl w.heap.size 3 i0 (.int .i64 0) 1 8 Tryz.underlying39 hi0 hz0 hz1 hz2 rfl (by decide) _ _ _ rfl (HOW.out.alloc _) ⟨wr.heap.size, 0, none⟩ 1 1 [.int .i64 ((Dd.lmb p k + Dd.lmb q k + Dd.car p q k) % 65536)] rfl rfl (Jt _ _ _) (JC _ _) (by unfold maxLen; omega) (by omega) (by have := HBR.out.size; simp; omega) ?_)
    intro v' w2 hown2 hgrow _
    have hb3 : Below w.heap.size w w2 := (HBR.out.alloc HBR.out.size _).grown hgrow (by have := HBR.out.size; simp; omega) (JR HOW.out)
    have hown3 := ZaF hown2 HST.out.1
    have H3 := η hown3; have B3 := η hb3
    clear hown2 hgrow hb3 hown3
    go_wp2_with fail
    go_roundw
    case rel => exact ⟨k + 1, by omega, by go_num, by rw [← HST.out.2], H3.out, B3.out⟩
    case measure => simp [intOf]; omega
  ·have hc0 : Dd.car p q k = 0 := by omega
   have hf := ZhW HP.out HQ.out (k := k) (by omega) (by omega) hc0
   have h1 : ¬ k < n := by omega
   have h2 : ¬ k < m := by omega
   have h3 : ¬ 0 < Dd.car p q k := by omega
   obtain ⟨A2, c2, rfl, hsl⟩ := Sl.of_own hown
   have HTY := η (Ty.of_own hown); have HF := η hf; have HS := η hsl; have HBR := η hbr
   clear hown hbr hsl hf hc0 hce hgo hcb
   go_wp2_with fail
   go_ret
   exact ⟨⟨A2, k, c2, rfl, hk, HS.out, HF.out, HTY.out⟩, HBR.out⟩
theorem ZfL {P : Program} {f : FuncId} {args : Array Value} {w : World} {v : Value} (h : Calls P f args w fun e w' => e = .returned v ∧ w = w') : Calls P f args w fun e w' => e = .returned v ∧ w' = w :=
 h.mono fun _ _ ⟨he, hw⟩ => ⟨he, hw.symm⟩
theorem ZhX {w : World} {k : IntKind} {A : Option Addr} {n c : Nat} {f : Nat → Int} (h : Sl w k A n c f) (m : Nat) : Sl (w.drewN m) k A n c f :=
 h.below (⟨rfl, rfl, rfl, Nat.le_refl _, fun _ _ => rfl⟩ : Below w.heap.size w (w.drewN m)) ν
theorem Ze6 {w : World} {base size n : Nat} {e : TypeId} {v : Value} {xs : List Value} (h : w.ownsRow base e size v n xs) (m : Nat) : (w.drewN m).ownsRow base e size v n xs := h
theorem ZfM (x y : Int) (i : Nat) : (Dd.lmb x i - Dd.lmb y i - Dd.brw x y i < 0 → Dd.lmb x i - Dd.lmb y i - Dd.brw x y i + 65536 = Dd.lmb (x - y) i ∧ Dd.brw x y (i + 1) = 1) ∧
  (¬ Dd.lmb x i - Dd.lmb y i - Dd.brw x y i < 0 → Dd.lmb x i - Dd.lmb y i - Dd.brw x y i = Dd.lmb (x - y) i ∧ Dd.brw x y (i + 1) = 0) := by
 have h := Dd.sub_step x y i
 have hc := Dd.brw_le x y i
 have r1 := Dd.lmb_range x i; have r2 := Dd.lmb_range y i
 rw [show Dd.brw x y i % 2 = Dd.brw x y i from by omega] at h
 rw [← h.1, ← h.2]
 unfold Dd.lo Dd.bor
 constructor
 ·intro hs
  rw [if_pos (by omega)]
  omega
 ·intro hs
  rw [if_neg (by omega)]
  omega
set_option maxHeartbeats 1000000 in
theorem ZbF (A A' : Option Addr) (n c m c' : Nat) (p q : Int) (w : World) (ha : Sl w .i64 A n c (Dd.lmb p)) (hp : Dd.Fits n p) (hb : Sl w .i64 A' m c' (Dd.lmb q)) (hq : Dd.Fits m q) (hn : n ≤ 100000) (hm : m ≤ 100000) (hle : q ≤ p) :
  Calls Tryz.prog 62 #[.slice A n c, .slice A' m c'] w fun e w' => (∃ A2 c2, e = .returned (.slice A2 n c2) ∧ Sl w' .i64 A2 n c2 (Dd.lmb (p - q)) ∧ Dd.Fits n (p - q) ∧ Ty w' A2) ∧ Below w.heap.size w w' := by
 obtain ⟨i0, hi0, hz0, hz1, hz2⟩ := info_parts ZbQ
 have hmax := ha.max; have hcap := ha.cap; unfold maxLen at hmax
 have hfin : Dd.Fits n (p - q) := by unfold Dd.Fits at *; omega
 have HA := η ha; have HP := η hp; have HB := η hb; have HQ := η hq; have HF := η hfin
 clear ha hp hb hq hfin hle
 go_enter Tryz.func62, Tryz.ntmps62
 go_wp2_with fail
 go_loopw [5, 6, 7] (fun v br i wr => ∃ k : Nat, k ≤ n ∧ i = .int .i64 k ∧ br = .int .i64 (Dd.brw p q k) ∧ wr.ownsRow w.heap.size 3 1 v k (row .i64 (Dd.lmb (p - q)) k) ∧ Below w.heap.size w wr)
  (fun _ _ i _ => n - (intOf i).toNat)
 case atStart => exact ⟨0, Nat.zero_le _, rfl, by rw [Dd.brw_zero], World.ownsRow_nil _ _ _ _, Below.refl _ _⟩
 case round =>
  obtain ⟨k, hk, rfl, rfl, hown, hbr⟩ := hrel
  have hcb := Dd.brw_le p q k
  by_cases hlt : k < n
  ·have hst := ZfM p q k
   have r1 := Dd.lmb_range p k; have r2 := Dd.lmb_range q k
   have ha' := HA.out.below hbr ν; have hb' := HB.out.below hbr ν
   obtain ⟨b, off, rfl, hblt, hc⟩ := ha'.at_ (by omega)
   have c1 := hc k hlt
   have HB' := η hb'; have HST := η hst
   have HOW := η hown; have HBR := η hbr
   clear hown hbr ha' hb' hst hc
   go_wp2_with fail
   go_quiet ((go_at_call 94; exact Calls.quiet_of_same (ZfL (ZbM A' m c' q k _ (ZhX HB'.out _) HQ.out (by omega)))))
   obtain ⟨w5, hw5⟩ : ∃ w5, w5 = wr.drewN nq := ⟨_, rfl⟩
   rw [← hw5]
   have how5 := Ze6 HOW.out nq
   rw [← hw5] at how5
   have hbr5 : Below w.heap.size w w5 := by rw [hw5]; exact ⟨HBR.out.os, HBR.out.tape, HBR.out.output, HBR.out.size, HBR.out.block⟩
   have HOW5 := η how5; have HBR5 := η hbr5
   clear hw5 how5 hbr5 c1 HBR HOW HB'
   by_cases hneg : Dd.lmb p k - Dd.lmb q k - Dd.brw p q k < 0
   ·obtain ⟨e1, e2⟩ := HST.out.1 (by omega)
    have E1 := η e1; have E2 := η e2; clear e1 e2
    go_wp2_with (at_builtin; refine wpList_append_own _ rfl _ _ 39 rfl w.heap.size 3 i0 (.int .i64 0) 1 8 Tryz.underlying39 hi0 hz0 hz1 hz2 rfl (by decide) _ _ _ rfl (HOW5.out.alloc _) ⟨w5.heap.size, 0, none⟩ 1 1 [.int .i64 (Dd.lmb p k - Dd.lmb q k - Dd.brw p q k + 65536)] rfl rfl (Jt _ _ _) (JC _ _) (by unfold maxLen; omega) (by omega) (by have := HBR5.out.size; simp; omega) ?_)
    intro v' w2 hown2 hgrow _
    have hb3 : Below w.heap.size w w2 := (HBR5.out.alloc HBR5.out.size _).grown hgrow (by have := HBR5.out.size; simp; omega) (JR HOW5.out)
    have H3 := η (ZaF hown2 E1.out); have B3 := η hb3
    clear hown2 hgrow hb3
    go_wp2_with fail
    go_roundw
    case rel => exact ⟨k + 1, by omega, by go_num, by rw [E2.out], H3.out, B3.out⟩
    case measure => simp [intOf]; omega
   ·obtain ⟨e1, e2⟩ := HST.out.2 (by omega)
    have E1 := η e1; have E2 := η e2; clear e1 e2
    go_wp2_with (at_builtin; refine wpList_append_own _ rfl _ _ 39 rfl w.heap.size 3 i0 (.int .i64 0) 1 8 Tryz.underlying39 hi0 hz0 hz1 hz2 rfl (by decide) _ _ _ rfl (HOW5.out.alloc _) ⟨w5.heap.size, 0, none⟩ 1 1 [.int .i64 (Dd.lmb p k - Dd.lmb q k - Dd.brw p q k)] rfl rfl (Jt _ _ _) (JC _ _) (by unfold maxLen; omega) (by omega) (by have := HBR5.out.size; simp; omega) ?_)
    intro v' w2 hown2 hgrow _
    have hb3 : Below w.heap.size w w2 := (HBR5.out.alloc HBR5.out.size _).grown hgrow (by have := HBR5.out.size; simp; omega) (JR HOW5.out)
    have H3 := η (ZaF hown2 E1.out); have B3 := η hb3
    clear hown2 hgrow hb3
    go_wp2_with fail
    go_roundw
    case rel => exact ⟨k + 1, by omega, by go_num, by rw [E2.out], H3.out, B3.out⟩
    case measure => simp [intOf]; omega
  ·obtain rfl : k = n := by omega
   obtain ⟨A2, c2, rfl, hsl⟩ := Sl.of_own hown
   have HTY := η (Ty.of_own hown); have HS := η hsl; have HBR := η hbr
   clear hown hbr hsl hcb
   go_wp2_with fail
   go_ret
   exact ⟨⟨A2, c2, rfl, HS.out, HF.out, HTY.out⟩, HBR.out⟩
theorem Jr (x : Int) : -1 ≤ (sg x) ∧ (sg x) ≤ 1 := by
 unfold sg
 rcases (by omega : x < 0 ∨ x = 0 ∨ 0 < x) with h | h | h
 ·rw [Int.sign_eq_neg_one_of_neg h]; omega
 ·subst h; simp
 ·rw [Int.sign_eq_one_of_pos h]; omega
theorem Zjz {w : World} {A : Option Addr} {n c : Nat} {x : Int} (h : Nm w A n c x) : Nm w A n c (-x) := by unfold Nm at *; rw [Int.natAbs_neg]; exact h
theorem ZhY (A : Option Addr) (n c : Nat) (x : Int) (w : World) (ha : Nm w A n c x) :
  Calls Tryz.prog 63 #[.agg #[.int .i64 (sg x), .slice A n c]] w fun e w' => e = .returned (.agg #[.int .i64 (sg (-x)), .slice A n c]) ∧ Below w.heap.size w w' := by
 have hr := Jr x
 have e1 : (sg (-x)) = -(sg x) := by unfold sg; rw [Int.sign_neg]
 rw [e1]
 clear ha e1
 go_enter Tryz.func63, Tryz.ntmps63
 go_wp2_with fail
 refine bodyPost_ret (v := .agg #[.int .i64 (-(sg x)), .slice A n c]) (by simp [results, Tryz.results63, go_sem]) rfl ⟨rfl, ?_⟩
 exact ((Below.refl w.heap.size w).alloc ν _).alloc (by simp) _
structure Box (w : World) (B : Nat) (a0 a1 b0 b1 : Value) : Prop where
 c0 : w.cell? ⟨B, 0, none⟩ = some a0
 c1 : w.cell? ⟨B, 1, none⟩ = some a1
 d0 : w.cell? ⟨B + 1, 0, none⟩ = some b0
 d1 : w.cell? ⟨B + 1, 1, none⟩ = some b1
 r : w.heap[B + 1 + 1]? = some (.cells #[.int .i64 0, .slice none 0 0] 41 (0, 0))
theorem Box.lt {w : World} {B : Nat} {a0 a1 b0 b1 : Value} (h : Box w B a0 a1 b0 b1) : B + 2 < w.heap.size := by
 rcases Nat.lt_or_ge (B + 2) w.heap.size with h1 | h1
 ·exact h1
 ·have := h.r; rw [Array.getElem?_eq_none (show _ ≤ B + 1 + 1 from h1)] at this; cases this
theorem Box.below {w w' : World} {B C : Nat} {a0 a1 b0 b1 : Value} (h : Box w B a0 a1 b0 b1) (hb : Below C w w') (hC : w.heap.size ≤ C) : Box w' B a0 a1 b0 b1 := by
 have hlt := h.lt
 exact ⟨(hb.cell (p := ⟨B, 0, none⟩) (by show B < C; omega)).trans h.c0, (hb.cell (p := ⟨B, 1, none⟩) (by show B < C; omega)).trans h.c1, (hb.cell (p := ⟨B + 1, 0, none⟩) (by show B + 1 < C; omega)).trans h.d0, (hb.cell (p := ⟨B + 1, 1, none⟩) (by show B + 1 < C; omega)).trans h.d1, (hb.block (B + 2) (by omega)).trans h.r⟩
theorem Box.drew {w : World} {B : Nat} {a0 a1 b0 b1 : Value} (h : Box w B a0 a1 b0 b1) : Box w.drew B a0 a1 b0 b1 := ⟨h.c0, h.c1, h.d0, h.d1, h.r⟩
theorem Box.cell {w : World} {B : Nat} {a0 a1 b0 b1 : Value} (h : Box w B a0 a1 b0 b1) (i : Nat) : w.cell? ⟨B + 1 + 1, i, none⟩ = (#[Value.int .i64 0, Value.slice none 0 0])[i]? := by simp [World.cell?, h.r]
theorem Box.free {w : World} {B : Nat} {a0 a1 b0 b1 : Value} (h : Box w B a0 a1 b0 b1) (i : Nat) : w.frozen? ⟨B + 1 + 1, i, none⟩ = false := by simp [World.frozen?, h.r]
theorem Box.new (w : World) (a0 a1 b0 b1 : Value) : Box (((w.alloc (.cells #[a0, a1] 41)).alloc (.cells #[b0, b1] 41)).alloc (.cells #[.int .i64 0, .slice none 0 0] 41)) w.heap.size a0 a1 b0 b1 := by
 refine ⟨by simp [go_sem], by simp [go_sem], by simp [go_sem], by simp [go_sem], ?_⟩
 have h := heap_alloc_new ((w.alloc (.cells #[a0, a1] 41)).alloc (.cells #[b0, b1] 41)) (.cells #[.int .i64 0, .slice none 0 0] 41)
 simpa using h
theorem JB {w : World} {B b o : Nat} {u v0 v1 : Value} (h : w.cell? ⟨b, o, none⟩ = some u) (hb : b ≠ B) : ((w.setCell ⟨B, 0, none⟩ v0).setCell ⟨B, 1, none⟩ v1).cell? ⟨b, o, none⟩ = some u := by
 rw [World.cell?_setCell_other _ _ _ _ (by intro e; injection e with e1; exact hb e1.symm), World.cell?_setCell_other _ _ _ _ (by intro e; injection e with e1; exact hb e1.symm)]; exact h
theorem ZbG {w : World} {A : Option Addr} {n c : Nat} {x : Int} (h : Nm w A n c x) : Nm w.drew A n c x := ⟨h.1.drew, h.2.1, h.2.2⟩
theorem Box.set2 {w : World} {B n c : Nat} {a0 a1 b0 b1 v0 v1 : Value} {A : Option Addr} {x : Int} (h : Box w B a0 a1 b0 b1) (hn : Nm w A n c x) : Nm ((w.setCell ⟨B + 1 + 1, 0, none⟩ v0).setCell ⟨B + 1 + 1, 1, none⟩ v1) A n c x :=
 (hn.set_ h.r (by decide)).set_ (heap_setCell_same w (B + 1 + 1) 0 _ _ v0 h.r) (by decide)
theorem ZhZ {x y : Int} (h0 : x ≠ 0) (h1 : y ≠ 0) (h : (sg x) = (sg y)) : (((x + y).natAbs : Nat) : Int) = (x.natAbs : Int) + y.natAbs ∧ (sg x) = (sg (x + y)) := by
 unfold sg at *
 rcases (by omega : 0 < x ∨ x < 0) with hx | hx
 ·rw [Int.sign_eq_one_of_pos hx] at h
  have hy : 0 < y := Int.sign_eq_one_iff_pos.1 h.symm
  rw [Int.sign_eq_one_of_pos hx, Int.sign_eq_one_of_pos (by omega)]; omega
 ·rw [Int.sign_eq_neg_one_of_neg hx] at h
  have hy : y < 0 := Int.sign_eq_neg_one_iff_neg.1 h.symm
  rw [Int.sign_eq_neg_one_of_neg hx, Int.sign_eq_neg_one_of_neg (by omega)]; omega
theorem Zf3 {x y : Int} (h0 : x ≠ 0) (h1 : y ≠ 0) (h : (sg x) ≠ (sg y)) (hle : (y.natAbs : Int) ≤ x.natAbs) : (((x + y).natAbs : Nat) : Int) = (x.natAbs : Int) - y.natAbs ∧ (x + y ≠ 0 → (sg x) = (sg (x + y))) := by
 unfold sg at *
 rcases (by omega : 0 < x ∨ x < 0) with hx | hx
 ·have hy : y < 0 := by
   rcases (by omega : 0 < y ∨ y < 0) with hy | hy
   ·rw [Int.sign_eq_one_of_pos hx, Int.sign_eq_one_of_pos hy] at h; exact absurd rfl h
   ·exact hy
  refine ⟨by omega, fun hne => ?_⟩
  rw [Int.sign_eq_one_of_pos hx, Int.sign_eq_one_of_pos (by omega)]
 ·have hy : 0 < y := by
   rcases (by omega : 0 < y ∨ y < 0) with hy | hy
   ·exact hy
   ·rw [Int.sign_eq_neg_one_of_neg hx, Int.sign_eq_neg_one_of_neg hy] at h; exact absurd rfl h
  refine ⟨by omega, fun hne => ?_⟩
  rw [Int.sign_eq_neg_one_of_neg hx, Int.sign_eq_neg_one_of_neg (by omega)]
theorem ZjA {p q : Int} (h : q ≤ p) : 0 ≤ cmpI p q := by
 rcases (by omega : q = p ∨ q < p) with h1 | h1
 ·subst h1; simp [cmpI]
 ·rw [ZeS h1]; omega
set_option maxHeartbeats 2000000 in
theorem ZcX (A A' : Option Addr) (n c m c' : Nat) (x y : Int) (w : World) (ha : Nm w A n c x) (hb : Nm w A' m c' y) (hn : n ≤ 99999) (hm : m ≤ 99999) :
  Calls Tryz.prog 34 #[.agg #[.int .i64 (sg x), .slice A n c], .agg #[.int .i64 (sg y), .slice A' m c']] w fun e w' => (∃ A2 k c2, e = .returned (.agg #[.int .i64 (sg (x + y)), .slice A2 k c2]) ∧ k ≤ max n m + 1 ∧ Nm w' A2 k c2 (x + y)) ∧ Below w.heap.size w w' := by
 have hrx := Jr x; have hry := Jr y
 have HA := η ha; have HB := η hb
 have hb3 : ∀ (o1 o2 o3 : Obj), Below w.heap.size w (((w.alloc o1).alloc o2).alloc o3) := fun o1 o2 o3 => (((Below.refl w.heap.size w).alloc ν _).alloc (by simp) _).alloc (by simp; omega) _
 have HB3 := η hb3
 clear ha hb hb3
 by_cases h0 : x = 0
 ·subst h0
  have hz : (sg 0 == 0) = true := rfl
  go_enter Tryz.func34, Tryz.ntmps34
  go_wp2_with fail
  refine bodyPost_ret (v := .agg #[.int .i64 (sg y), .slice A' m c']) (by simp [results, Tryz.results34, go_sem]) rfl ⟨⟨A', m, c', by rw [Int.zero_add], by omega, ?_⟩, HB3.out _ _ _⟩
  rw [Int.zero_add]; exact HB.out.below (HB3.out _ _ _) ν
 ·have hs0 : ((sg x) == 0) = false := by simp [sg]; exact h0
  by_cases h1 : y = 0
  ·subst h1
   have hz : (sg 0 == 0) = true := rfl
   go_enter Tryz.func34, Tryz.ntmps34
   go_wp2_with fail
   refine bodyPost_ret (v := .agg #[.int .i64 (sg x), .slice A n c]) (by simp [results, Tryz.results34, go_sem]) rfl ⟨⟨A, n, c, by rw [Int.add_zero], by omega, ?_⟩, HB3.out _ _ _⟩
   rw [Int.add_zero]; exact HA.out.below (HB3.out _ _ _) ν
  ·have hs1 : ((sg y) == 0) = false := by simp [sg]; exact h1
   by_cases h2 : (sg x) = (sg y)
   ·have hs2 : ((sg x) == (sg y)) = true := by simp [h2]
    have hsm := ZhZ h0 h1 h2
    have HSM := η hsm
    clear h2 hsm
    go_enter Tryz.func34, Tryz.ntmps34
    go_wp2_with fail
    have bx := Box.new w (.int .i64 (sg x)) (.slice A n c) (.int .i64 (sg y)) (.slice A' m c')
    have hbw := HB3.out (.cells #[.int .i64 (sg x), .slice A n c] 41) (.cells #[.int .i64 (sg y), .slice A' m c'] 41) (.cells #[.int .i64 0, .slice none 0 0] 41)
    generalize (((w.alloc (.cells #[.int .i64 (sg x), .slice A n c] 41)).alloc (.cells #[.int .i64 (sg y), .slice A' m c'] 41)).alloc (.cells #[.int .i64 0, .slice none 0 0] 41)) = w3 at *
    have BX := η bx; have BW := η hbw
    have NA := η (HA.out.below hbw ν); have NB := η (HB.out.below hbw ν)
    clear bx hbw hs0 hs1 hs2
    go_region_held3 (fun w' => w'.cell? ⟨w.heap.size, 0, none⟩ = some (.int .i64 (sg x)) ∧ w'.cell? ⟨w.heap.size, 1, none⟩ = some (.slice A n c) ∧ w'.cell? ⟨w.heap.size + 1, 1, none⟩ = some (.slice A' m c')) (first | exact ⟨BX.out.c0, BX.out.c1, BX.out.d1⟩ | exact ⟨B5.out.c0, B5.out.c1, B5.out.d1⟩ | exact ⟨B6.out.c0, B6.out.c1, B6.out.d1⟩ | exact ⟨JB B6.out.c0 (by omega), JB B6.out.c1 (by omega), JB B6.out.d1 (by omega)⟩) (first | (go_at_call 60; refine (ZdG A A' n c m c' x.natAbs y.natAbs _ (by first | exact NA.out.1 | exact NA.out.1.drew) NA.out.2.1.1 (by first | exact NB.out.1 | exact NB.out.1.drew) NB.out.2.1.1 (by omega) (by omega)).mono ?_; rintro e w5 ⟨⟨A2, k, c2, rfl, hk, hs5, hf5, ht5⟩, hb5⟩; have B5 := η (Box.below (by first | exact BX.out | exact BX.out.drew) hb5 ν); have S5 := η hs5; have F5 := η hf5; have D5 := η hb5; have T5 := η ht5; clear hs5 hf5 hb5 ht5) | (go_at_call 58; refine (Zai (sg x) A2 k c2 _ (x + y) _ (by first | exact S5.out | exact S5.out.drew) F5.out HSM.out.1 (fun _ => HSM.out.2) (by first | exact T5.out | exact Ty.below T5.out (Below.refl _ _).drew ν)).mono ?_; rintro e w6 ⟨⟨A3, k3, c3, rfl, hk3, hnm6⟩, hb6⟩; have B6 := η (Box.below (by first | exact B5.out | exact B5.out.drew) hb6 ν); have N6 := η hnm6; have D6 := η hb6; clear hnm6 hb6; have q0 := B6.out.cell 0; have q1 := B6.out.cell 1; have q2 := B6.out.free 0; have q3 := B6.out.free 1))
    go_wp2_with fail
    have hbf := ((BW.out.drew.trans (Below.mono (B' := w.heap.size) D5.out BW.out.size)).trans (D6.out.mono (Nat.le_trans BW.out.size D5.out.size)))
    refine bodyPost_ret (v := .agg #[.int .i64 (sg (x + y)), .slice A3 k3 c3]) (by simp [results, Tryz.results34, go_sem, q0, q1]) rfl ⟨⟨A3, k3, c3, rfl, by omega, B6.out.set2 N6.out⟩, ?_⟩
    exact (hbf.setCell (p := ⟨w.heap.size + 1 + 1, 0, none⟩) (by simp; omega) _).setCell (p := ⟨w.heap.size + 1 + 1, 1, none⟩) (by simp; omega) _
   ·have hs2 : ((sg x) == (sg y)) = false := by simpa using h2
    have HD := η h2
    clear h2
    go_enter Tryz.func34, Tryz.ntmps34
    go_wp2_with fail
    have bx := Box.new w (.int .i64 (sg x)) (.slice A n c) (.int .i64 (sg y)) (.slice A' m c')
    have hbw := HB3.out (.cells #[.int .i64 (sg x), .slice A n c] 41) (.cells #[.int .i64 (sg y), .slice A' m c'] 41) (.cells #[.int .i64 0, .slice none 0 0] 41)
    generalize (((w.alloc (.cells #[.int .i64 (sg x), .slice A n c] 41)).alloc (.cells #[.int .i64 (sg y), .slice A' m c'] 41)).alloc (.cells #[.int .i64 0, .slice none 0 0] 41)) = w3 at *
    have BX := η bx; have BW := η hbw
    have NA := η (HA.out.below hbw ν); have NB := η (HB.out.below hbw ν)
    clear bx hbw hs0 hs1
    refine (Zcb A A' n c m c' _ _ _ NA.out.1 NA.out.2.1 NB.out.1 NB.out.2.1).mono ?_
    rintro e w4 ⟨rfl, nq, rfl⟩
    obtain ⟨w4, hw4⟩ : ∃ w4, w4 = w3.drewN nq := ⟨_, rfl⟩
    have hdr : Below w3.heap.size w3 w4 := by rw [hw4]; exact ⟨rfl, rfl, rfl, Nat.le_refl _, fun _ _ => rfl⟩
    rw [← hw4]
    clear hw4
    have BX := η (BX.out.below hdr ν); have NA := η (NA.out.below hdr ν); have NB := η (NB.out.below hdr ν); have BW := η (BW.out.trans (hdr.mono BW.out.size))
    clear hdr
    by_cases hle : (y.natAbs : Int) ≤ x.natAbs
    ·have hcm := ZjA hle
     have HSM := η (Zf3 h0 h1 HD.out hle)
     have HLE := η hle
     clear hle
     go_wp2_with fail
     go_region_held3 (fun w' => w'.cell? ⟨w.heap.size, 0, none⟩ = some (.int .i64 (sg x)) ∧ w'.cell? ⟨w.heap.size, 1, none⟩ = some (.slice A n c) ∧ w'.cell? ⟨w.heap.size + 1, 1, none⟩ = some (.slice A' m c')) (first | exact ⟨BX.out.c0, BX.out.c1, BX.out.d1⟩ | exact ⟨B5.out.c0, B5.out.c1, B5.out.d1⟩ | exact ⟨B6.out.c0, B6.out.c1, B6.out.d1⟩ | exact ⟨JB B6.out.c0 (by omega), JB B6.out.c1 (by omega), JB B6.out.d1 (by omega)⟩) (first | (go_at_call 62; refine (ZbF A A' n c m c' x.natAbs y.natAbs _ (by first | exact NA.out.1 | exact NA.out.1.drew) NA.out.2.1.1 (by first | exact NB.out.1 | exact NB.out.1.drew) NB.out.2.1.1 (by omega) (by omega) HLE.out).mono ?_; rintro e w5 ⟨⟨A2, c2, rfl, hs5, hf5, ht5⟩, hb5⟩; have B5 := η (Box.below (by first | exact BX.out | exact BX.out.drew) hb5 ν); have S5 := η hs5; have F5 := η hf5; have D5 := η hb5; have T5 := η ht5; clear hs5 hf5 hb5 ht5) | (go_at_call 58; refine (Zai (sg x) A2 n c2 _ (x + y) _ (by first | exact S5.out | exact S5.out.drew) F5.out HSM.out.1 HSM.out.2 (by first | exact T5.out | exact Ty.below T5.out (Below.refl _ _).drew ν)).mono ?_; rintro e w6 ⟨⟨A3, k3, c3, rfl, hk3, hnm6⟩, hb6⟩; have B6 := η (Box.below (by first | exact B5.out | exact B5.out.drew) hb6 ν); have N6 := η hnm6; have D6 := η hb6; clear hnm6 hb6; have q0 := B6.out.cell 0; have q1 := B6.out.cell 1; have q2 := B6.out.free 0; have q3 := B6.out.free 1))
     go_wp2_with fail
     have hbf := ((BW.out.drew.trans (Below.mono (B' := w.heap.size) D5.out BW.out.size)).trans (D6.out.mono (Nat.le_trans BW.out.size D5.out.size)))
     refine bodyPost_ret (v := .agg #[.int .i64 (sg (x + y)), .slice A3 k3 c3]) (by simp [results, Tryz.results34, go_sem, q0, q1]) rfl ⟨⟨A3, k3, c3, rfl, by omega, B6.out.set2 N6.out⟩, ?_⟩
     exact (hbf.setCell (p := ⟨w.heap.size + 1 + 1, 0, none⟩) (by simp; omega) _).setCell (p := ⟨w.heap.size + 1 + 1, 1, none⟩) (by simp; omega) _
    ·have hcm : cmpI x.natAbs y.natAbs < 0 := by rw [ZeR (by omega)]; omega
     have hle' : (x.natAbs : Int) ≤ y.natAbs := by omega
     have hsm := Zf3 h1 h0 (fun e => HD.out e.symm) hle'
     rw [Int.add_comm y x] at hsm
     have HSM := η hsm
     have HLE := η hle'
     clear hle hle' hsm
     go_wp2_with fail
     go_region_held3 (fun w' => w'.cell? ⟨w.heap.size + 1, 0, none⟩ = some (.int .i64 (sg y)) ∧ w'.cell? ⟨w.heap.size + 1, 1, none⟩ = some (.slice A' m c') ∧ w'.cell? ⟨w.heap.size, 1, none⟩ = some (.slice A n c)) (first | exact ⟨BX.out.d0, BX.out.d1, BX.out.c1⟩ | exact ⟨B5.out.d0, B5.out.d1, B5.out.c1⟩ | exact ⟨B6.out.d0, B6.out.d1, B6.out.c1⟩ | exact ⟨JB B6.out.d0 (by omega), JB B6.out.d1 (by omega), JB B6.out.c1 (by omega)⟩) (first | (go_at_call 62; refine (ZbF A' A m c' n c y.natAbs x.natAbs _ (by first | exact NB.out.1 | exact NB.out.1.drew) NB.out.2.1.1 (by first | exact NA.out.1 | exact NA.out.1.drew) NA.out.2.1.1 (by omega) (by omega) HLE.out).mono ?_; rintro e w5 ⟨⟨A2, c2, rfl, hs5, hf5, ht5⟩, hb5⟩; have B5 := η (Box.below (by first | exact BX.out | exact BX.out.drew) hb5 ν); have S5 := η hs5; have F5 := η hf5; have D5 := η hb5; have T5 := η ht5; clear hs5 hf5 hb5 ht5) | (go_at_call 58; refine (Zai (sg y) A2 m c2 _ (x + y) _ (by first | exact S5.out | exact S5.out.drew) F5.out HSM.out.1 HSM.out.2 (by first | exact T5.out | exact Ty.below T5.out (Below.refl _ _).drew ν)).mono ?_; rintro e w6 ⟨⟨A3, k3, c3, rfl, hk3, hnm6⟩, hb6⟩; have B6 := η (Box.below (by first | exact B5.out | exact B5.out.drew) hb6 ν); have N6 := η hnm6; have D6 := η hb6; clear hnm6 hb6; have q0 := B6.out.cell 0; have q1 := B6.out.cell 1; have q2 := B6.out.free 0; have q3 := B6.out.free 1))
     go_wp2_with fail
     have hbf := ((BW.out.drew.trans (Below.mono (B' := w.heap.size) D5.out BW.out.size)).trans (D6.out.mono (Nat.le_trans BW.out.size D5.out.size)))
     refine bodyPost_ret (v := .agg #[.int .i64 (sg (x + y)), .slice A3 k3 c3]) (by simp [results, Tryz.results34, go_sem, q0, q1]) rfl ⟨⟨A3, k3, c3, rfl, by omega, B6.out.set2 N6.out⟩, ?_⟩
     exact (hbf.setCell (p := ⟨w.heap.size + 1 + 1, 0, none⟩) (by simp; omega) _).setCell (p := ⟨w.heap.size + 1 + 1, 1, none⟩) (by simp; omega) _
set_option maxHeartbeats 1000000 in
theorem ZbR (A A' : Option Addr) (n c m c' : Nat) (x y : Int) (w : World) (ha : Nm w A n c x) (hb : Nm w A' m c' y) (hn : n ≤ 99999) (hm : m ≤ 99999) :
  Calls Tryz.prog 35 #[.agg #[.int .i64 (sg x), .slice A n c], .agg #[.int .i64 (sg y), .slice A' m c']] w fun e w' => (∃ A2 k c2, e = .returned (.agg #[.int .i64 (sg (x - y)), .slice A2 k c2]) ∧ k ≤ max n m + 1 ∧ Nm w' A2 k c2 (x - y)) ∧ Below w.heap.size w w' := by
 have hrx := Jr x; have hry := Jr y
 have HA := η ha; have HB := η hb
 have hb3 : ∀ (o1 o2 o3 : Obj), Below w.heap.size w (((w.alloc o1).alloc o2).alloc o3) := fun o1 o2 o3 => (((Below.refl w.heap.size w).alloc ν _).alloc (by simp) _).alloc (by simp; omega) _
 have HB3 := η hb3
 clear ha hb hb3
 go_enter Tryz.func35, Tryz.ntmps35
 go_wp2_with fail
 have bx := Box.new w (.int .i64 (sg x)) (.slice A n c) (.int .i64 (sg y)) (.slice A' m c')
 have hbw := HB3.out (.cells #[.int .i64 (sg x), .slice A n c] 41) (.cells #[.int .i64 (sg y), .slice A' m c'] 41) (.cells #[.int .i64 0, .slice none 0 0] 41)
 generalize (((w.alloc (.cells #[.int .i64 (sg x), .slice A n c] 41)).alloc (.cells #[.int .i64 (sg y), .slice A' m c'] 41)).alloc (.cells #[.int .i64 0, .slice none 0 0] 41)) = w3 at *
 have BX := η bx; have BW := η hbw
 have NA := η (HA.out.below hbw ν); have NB := η (HB.out.below hbw ν)
 clear bx hbw
 go_region_held3 (fun w' => w'.cell? ⟨w.heap.size, 0, none⟩ = some (.int .i64 (sg x)) ∧ w'.cell? ⟨w.heap.size, 1, none⟩ = some (.slice A n c) ∧ w'.cell? ⟨w.heap.size + 1, 0, none⟩ = some (.int .i64 (sg y)) ∧ w'.cell? ⟨w.heap.size + 1, 1, none⟩ = some (.slice A' m c')) (first | exact ⟨BX.out.c0, BX.out.c1, BX.out.d0, BX.out.d1⟩ | exact ⟨B5.out.c0, B5.out.c1, B5.out.d0, B5.out.d1⟩ | exact ⟨B6.out.c0, B6.out.c1, B6.out.d0, B6.out.d1⟩ | exact ⟨JB B6.out.c0 (by omega), JB B6.out.c1 (by omega), JB B6.out.d0 (by omega), JB B6.out.d1 (by omega)⟩) (first | (go_at_call 63; refine (ZhY A' m c' y _ (by first | exact NB.out | exact ZbG NB.out)).mono ?_; rintro e w5 ⟨rfl, hb5⟩; have B5 := η (Box.below (by first | exact BX.out | exact BX.out.drew) hb5 ν); have NA5 := η (Nm.below (by first | exact NA.out | exact ZbG NA.out) hb5 ν); have NB5 := η (Nm.below (Zjz (by first | exact NB.out | exact ZbG NB.out)) hb5 ν); have D5 := η hb5; clear hb5) | (go_at_call 34; refine (ZcX A A' n c m c' x (-y) _ (by first | exact NA5.out | exact ZbG NA5.out) (by first | exact NB5.out | exact ZbG NB5.out) hn hm).mono ?_; rintro e w6 ⟨⟨A3, k3, c3, rfl, hk3, hnm6⟩, hb6⟩; have B6 := η (Box.below (by first | exact B5.out | exact B5.out.drew) hb6 ν); have N6 := η hnm6; have D6 := η hb6; clear hnm6 hb6; have q0 := B6.out.cell 0; have q1 := B6.out.cell 1; have q2 := B6.out.free 0; have q3 := B6.out.free 1))
 go_wp2_with fail
 have hbf := ((BW.out.drew.trans (Below.mono (B' := w.heap.size) D5.out BW.out.size)).trans (D6.out.mono (Nat.le_trans BW.out.size D5.out.size)))
 refine bodyPost_ret (v := .agg #[.int .i64 (sg (x + -y)), .slice A3 k3 c3]) (by simp [results, Tryz.results35, go_sem, q0, q1]) rfl ⟨⟨A3, k3, c3, rfl, by omega, B6.out.set2 N6.out⟩, ?_⟩
 exact (hbf.setCell (p := ⟨w.heap.size + 1 + 1, 0, none⟩) (by simp; omega) _).setCell (p := ⟨w.heap.size + 1 + 1, 1, none⟩) (by simp; omega) _
end Go.Proofs.YtjdiilkljgljkaaGreatDoor
namespace Go.Proofs.YtjdiilkljgljkaaGreatDoor
set_option linter.unusedVariables false
set_option linter.unusedSimpArgs false
open Go.RowKit Wd
theorem ZfN {a b : Int} (ha : IsW a) (hb : IsW b) : bits .xor .u64 a b = 0 ↔ a = b := by
 unfold IsW at *
 rw [u64_xor a b ha.1 ha.2 hb.1 hb.2]
 constructor
 ·intro h
  have h1 : a.toNat ^^^ b.toNat = 0 := by omega
  have h2 : a.toNat = b.toNat := by
   have := congrArg (· ^^^ b.toNat) h1
   simpa [Nat.xor_assoc] using this
  omega
 ·intro h; subst h; simp
theorem TabM.alloc {w : World} (h : TabM w) (o : Obj) : TabM (w.alloc o) := h.below ((Below.refl w.heap.size w).alloc ν o) ν
theorem Zdi (a b : Int) (ha : IsW a) (hb : IsW b) (w : World) :
  Calls Tryz.prog 168 #[.int .u64 a, .int .u64 b] w fun e w' => e = .returned (.int .u64 (msk (decide (a = b)))) ∧ w = w' := by
 have h := η (Zd6 ha hb)
 have he : decide (a = b) = decide (bits .xor .u64 a b = 0) := decide_eq_decide.2 (ZfN ha hb).symm
 rw [he]
 clear he
 go_enter Tryz.func168, Tryz.ntmps168
 go_wp2_with fail
 refine (Zax _ h.out _).mono ?_
 rintro e w' ⟨rfl, rfl⟩
 go_wp2_with fail
 go_ret
 exact ⟨rfl, rfl⟩
set_option maxHeartbeats 1000000 in
theorem Zf4 (ax ay bx b_ cx cy : Int) (hp : P3 ax ay bx b_ cx cy) (w : World) :
  Calls Tryz.prog 50 #[.agg #[.int .i64 ax, .int .i64 ay], .agg #[.int .i64 bx, .int .i64 b_], .agg #[.int .i64 cx, .int .i64 cy]] w fun e w' => (∃ A c, e = .returned (.slice A 3 c) ∧ Sl w' .u64 A 3 c (lmb (det ax ay bx b_ cx cy))) ∧ Below w.heap.size w w' := by
 have HB0 := η (Below.refl w.heap.size w)
 have HF := η hp.fit
 go_enter Tryz.func50, Tryz.ntmps50
 go_wp2_with fail
 have B : Below w.heap.size w (((w.alloc (.cells #[.int .i64 ax, .int .i64 ay] 23)).alloc (.cells #[.int .i64 bx, .int .i64 b_] 23)).alloc (.cells #[.int .i64 cx, .int .i64 cy] 23)) := (((HB0.out.alloc HB0.out.size _).alloc (HB0.out.alloc HB0.out.size _).size _).alloc ((HB0.out.alloc HB0.out.size _).alloc (HB0.out.alloc HB0.out.size _).size _).size _)
 have C : Below w.heap.size w (((w.alloc (.cells #[.int .i64 ax, .int .i64 ay] 23)).alloc (.cells #[.int .i64 bx, .int .i64 b_] 23)).alloc (.cells #[.int .i64 cx, .int .i64 cy] 23)) := ((((Below.refl w.heap.size w).alloc ν _).alloc (by simp; try omega) _).alloc (by simp; try omega) _)
 have X0 : Bx (((w.alloc (.cells #[.int .i64 ax, .int .i64 ay] 23)).alloc (.cells #[.int .i64 bx, .int .i64 b_] 23)).alloc (.cells #[.int .i64 cx, .int .i64 cy] 23)) (w.heap.size) #[.int .i64 ax, .int .i64 ay] 23 := by simpa using (((Bx.new w #[.int .i64 ax, .int .i64 ay] 23).alloc _).alloc _)
 have X1 : Bx (((w.alloc (.cells #[.int .i64 ax, .int .i64 ay] 23)).alloc (.cells #[.int .i64 bx, .int .i64 b_] 23)).alloc (.cells #[.int .i64 cx, .int .i64 cy] 23)) (w.heap.size + 1) #[.int .i64 bx, .int .i64 b_] 23 := by simpa using ((Bx.new (w.alloc (.cells #[.int .i64 ax, .int .i64 ay] 23)) #[.int .i64 bx, .int .i64 b_] 23).alloc _)
 have X2 : Bx (((w.alloc (.cells #[.int .i64 ax, .int .i64 ay] 23)).alloc (.cells #[.int .i64 bx, .int .i64 b_] 23)).alloc (.cells #[.int .i64 cx, .int .i64 cy] 23)) (w.heap.size + 1 + 1) #[.int .i64 cx, .int .i64 cy] 23 := by simpa using (Bx.new ((w.alloc (.cells #[.int .i64 ax, .int .i64 ay] 23)).alloc (.cells #[.int .i64 bx, .int .i64 b_] 23)) #[.int .i64 cx, .int .i64 cy] 23)
 have HB1 := η B
 have FP_1 := η X0
 have FQ_1 := η X1
 have FR_1 := η X2
 clear B C X0 X1 X2 HB0
 generalize (((w.alloc (.cells #[.int .i64 ax, .int .i64 ay] 23)).alloc (.cells #[.int .i64 bx, .int .i64 b_] 23)).alloc (.cells #[.int .i64 cx, .int .i64 cy] 23)) = w1 at *
 have RB1 := η (Je w1)
 have QS1 := η (show w1.cell? ⟨w.heap.size, 0, none⟩ = some (.int .i64 ax) ∧ w1.cell? ⟨w.heap.size, 1, none⟩ = some (.int .i64 ay) ∧ w1.cell? ⟨w.heap.size + 1, 0, none⟩ = some (.int .i64 bx) ∧ w1.cell? ⟨w.heap.size + 1, 1, none⟩ = some (.int .i64 b_) ∧ w1.cell? ⟨w.heap.size + 1 + 1, 0, none⟩ = some (.int .i64 cx) ∧ w1.cell? ⟨w.heap.size + 1 + 1, 1, none⟩ = some (.int .i64 cy) from ⟨FP_1.out.cell 0 (v := .int .i64 ax) rfl, FP_1.out.cell 1 (v := .int .i64 ay) rfl, FQ_1.out.cell 0 (v := .int .i64 bx) rfl, FQ_1.out.cell 1 (v := .int .i64 b_) rfl, FR_1.out.cell 0 (v := .int .i64 cx) rfl, FR_1.out.cell 1 (v := .int .i64 cy) rfl⟩)
 have QF1 := η (show ∀ w', Below w1.heap.size w1 w' → w'.cell? ⟨w.heap.size, 0, none⟩ = some (.int .i64 ax) ∧ w'.cell? ⟨w.heap.size, 1, none⟩ = some (.int .i64 ay) ∧ w'.cell? ⟨w.heap.size + 1, 0, none⟩ = some (.int .i64 bx) ∧ w'.cell? ⟨w.heap.size + 1, 1, none⟩ = some (.int .i64 b_) ∧ w'.cell? ⟨w.heap.size + 1 + 1, 0, none⟩ = some (.int .i64 cx) ∧ w'.cell? ⟨w.heap.size + 1 + 1, 1, none⟩ = some (.int .i64 cy) from fun w' hb => ⟨(FP_1.out.below hb ν).cell 0 (v := .int .i64 ax) rfl, (FP_1.out.below hb ν).cell 1 (v := .int .i64 ay) rfl, (FQ_1.out.below hb ν).cell 0 (v := .int .i64 bx) rfl, (FQ_1.out.below hb ν).cell 1 (v := .int .i64 b_) rfl, (FR_1.out.below hb ν).cell 0 (v := .int .i64 cx) rfl, (FR_1.out.below hb ν).cell 1 (v := .int .i64 cy) rfl⟩)
 go_region_held3 (fun w' => w'.cell? ⟨w.heap.size, 0, none⟩ = some (.int .i64 ax) ∧ w'.cell? ⟨w.heap.size, 1, none⟩ = some (.int .i64 ay) ∧ w'.cell? ⟨w.heap.size + 1, 0, none⟩ = some (.int .i64 bx) ∧ w'.cell? ⟨w.heap.size + 1, 1, none⟩ = some (.int .i64 b_) ∧ w'.cell? ⟨w.heap.size + 1 + 1, 0, none⟩ = some (.int .i64 cx) ∧ w'.cell? ⟨w.heap.size + 1 + 1, 1, none⟩ = some (.int .i64 cy)) (first | with_reducible exact QF1.out _ RB5.out | with_reducible exact QF1.out _ RB4.out | with_reducible exact QF1.out _ RB3.out | with_reducible exact QF1.out _ RB2.out | with_reducible exact QS1.out | with_reducible exact QF1.out _ RB1.out) (first
   | (go_at_call 74; have := RB4; clear this; refine (Js U3 4 u3 (det ax ay bx b_ cx cy) 3 3 rfl _ RX3_4.out (fit_mono HF.out (by omega)) rfl rfl).mono ?_; rintro e w5 ⟨U4, u4, rfl, S4, B⟩; have RB5 := η (RB4.out.trans (B.mono RB4.out.size)); have RX1_5 := η (RX1_4.out.below B ν); have RY1_5 := η (RY1_4.out.below B ν); have RX2_5 := η (RX2_4.out.below B ν); have RY2_5 := η (RY2_4.out.below B ν); have RX3_5 := η (RX3_4.out.below B ν); have RX4_5 := η S4; clear B S4)
   | (go_at_call 75; have := RB3; clear this; refine (Zb1 U1 V1 U2 V2 u1 v1 u2 v2 (bx - ax) (b_ - ay) (cx - ax) (cy - ay) _ RX1_3.out RY1_3.out RX2_3.out RY2_3.out (Jp hp.c hp.a) (Jp hp.d hp.b) (Jp hp.e hp.a) (Jp hp.f hp.b)).mono ?_; rintro e w4 ⟨⟨U3, u3, rfl, S3⟩, B⟩; have RB4 := η (RB3.out.trans (B.mono RB3.out.size)); have RX1_4 := η (RX1_3.out.below B ν); have RY1_4 := η (RY1_3.out.below B ν); have RX2_4 := η (RX2_3.out.below B ν); have RY2_4 := η (RY2_3.out.below B ν); have RX3_4 := η (show Sl _ .u64 U3 4 u3 (lmb (det ax ay bx b_ cx cy)) from S3); clear B S3)
   | (go_at_call 76; have := RB2; clear this; refine (Za5 ax ay cx cy hp.a hp.b hp.e hp.f _).mono ?_; rintro e w3 ⟨⟨U2, u2, V2, v2, rfl, S2, T2⟩, B⟩; have RB3 := η (RB2.out.trans (B.mono RB2.out.size)); have RX1_3 := η (RX1_2.out.below B ν); have RY1_3 := η (RY1_2.out.below B ν); have RX2_3 := η S2; have RY2_3 := η T2; clear B S2 T2)
   | (go_at_call 76; have := RB1; clear this; refine (Za5 ax ay bx b_ hp.a hp.b hp.c hp.d _).mono ?_; rintro e w2 ⟨⟨U1, u1, V1, v1, rfl, S1, T1⟩, B⟩; have RB2 := η (RB1.out.trans (B.mono RB1.out.size)); have RX1_2 := η S1; have RY1_2 := η T1; clear B S1 T1))
 have FP_5 := η (FP_1.out.below RB5.out ν)
 have FQ_5 := η (FQ_1.out.below RB5.out ν)
 have FR_5 := η (FR_1.out.below RB5.out ν)
 have HB5 := η (HB1.out.trans (RB5.out.mono HB1.out.size))
 clear HB1 FP_1 FQ_1 FR_1
 go_wp2_with fail
 go_ret
 exact ⟨⟨_, _, rfl, RX4_5.out⟩, HB5.out⟩
set_option maxHeartbeats 1000000 in
theorem JQ (ax ay bx b_ cx cy : Int) (hp : P3 ax ay bx b_ cx cy) (w : World) (hT : TabM w) :
  Calls Tryz.prog 28 #[.agg #[.int .i64 ax, .int .i64 ay], .agg #[.int .i64 bx, .int .i64 b_], .agg #[.int .i64 cx, .int .i64 cy]] w fun e w' => e = .returned (.int .i64 (sg (det ax ay bx b_ cx cy))) ∧ Below w.heap.size w w' := by
 have HB0 := η (Below.refl w.heap.size w)
 have FT := η hT
 clear hT
 have HF := η hp.fit
 go_enter Tryz.func28, Tryz.ntmps28
 go_wp2_with fail
 refine (Zf4 _ _ _ _ _ _ hp _).mono ?_
 rintro e w1 ⟨⟨U1, u1, rfl, S1⟩, B⟩
 have HB1 := η ((((HB0.out.alloc HB0.out.size _).alloc (HB0.out.alloc HB0.out.size _).size _).alloc ((HB0.out.alloc HB0.out.size _).alloc (HB0.out.alloc HB0.out.size _).size _).size _).trans (B.mono (((HB0.out.alloc HB0.out.size _).alloc (HB0.out.alloc HB0.out.size _).size _).alloc ((HB0.out.alloc HB0.out.size _).alloc (HB0.out.alloc HB0.out.size _).size _).size _).size))
 have FT_1 := η ((((FT.out.alloc _).alloc _).alloc _).below B ν)
 have FX_1 := η S1
 clear B S1 HB0 FT
 go_wp2_with fail
 refine (Ze5 _ _ _ _ _ FX_1.out HF.out rfl FT_1.out).mono ?_
 rintro e w2 ⟨rfl, B⟩
 have HB2 := η (HB1.out.trans (B.mono HB1.out.size))
 have FT_2 := η (FT_1.out.below B ν)
 have FX_2 := η (FX_1.out.below B ν)
 clear B  HB1 FT_1 FX_1
 go_wp2_with fail
 go_ret
 exact ⟨rfl, HB2.out⟩
end Go.Proofs.YtjdiilkljgljkaaGreatDoor
namespace Go.Proofs.YtjdiilkljgljkaaGreatDoor
set_option linter.unusedVariables false
set_option linter.unusedSimpArgs false
namespace Wd
def mnr (bx b_ cx cy dx dy : Int) : Int := (bx - dx) * (cy - dy) - (b_ - dy) * (cx - dx)
def nrm (ax ay dx dy : Int) : Int := (ax - dx) * (ax - dx) + (ay - dy) * (ay - dy)
def circ (ax ay bx b_ cx cy dx dy : Int) : Int :=
 nrm ax ay dx dy * mnr bx b_ cx cy dx dy + nrm bx b_ dx dy * mnr cx cy ax ay dx dy + nrm cx cy dx dy * mnr ax ay bx b_ dx dy
theorem Zi0 (ax ay bx b_ cx cy dx dy : Int) :
  (ax * ax + ay * ay) * det bx b_ cx cy dx dy - (bx * bx + b_ * b_) * det ax ay cx cy dx dy + ((cx * cx + cy * cy) * det ax ay bx b_ dx dy - (dx * dx + dy * dy) * det ax ay bx b_ cx cy) = circ ax ay bx b_ cx cy dx dy := by
 unfold circ nrm mnr det; grind
theorem mnr_bd {bx b_ cx cy dx dy : Int} (h1 : IsI bx) (h2 : IsI b_) (h3 : IsI cx) (h4 : IsI cy) (h5 : IsI dx) (h6 : IsI dy) :
  -680564733841876926852962238568698216450 ≤ mnr bx b_ cx cy dx dy ∧ mnr bx b_ cx cy dx dy ≤ 680564733841876926852962238568698216450 := by
 have e1 := Zb5 (JZ h1 h5) (JZ h4 h6)
 have e2 := Zb5 (JZ h2 h6) (JZ h3 h5)
 unfold mnr
 omega
theorem nrm_bd {ax ay dx dy : Int} (h1 : IsI ax) (h2 : IsI ay) (h5 : IsI dx) (h6 : IsI dy) : 0 ≤ nrm ax ay dx dy ∧ nrm ax ay dx dy ≤ 680564733841876926852962238568698216450 := ZiB (JZ h1 h5) (JZ h2 h6)
end Wd
structure P4 (ax ay bx b_ cx cy dx dy : Int) : Prop where
 a : Wd.IsI ax
 b : Wd.IsI ay
 c : Wd.IsI bx
 d : Wd.IsI b_
 e : Wd.IsI cx
 f : Wd.IsI cy
 g : Wd.IsI dx
 h : Wd.IsI dy
theorem ZdH {x y : Int} (hx : 0 ≤ x ∧ x ≤ 680564733841876926852962238568698216450) (hy : -680564733841876926852962238568698216450 ≤ y ∧ y ≤ 680564733841876926852962238568698216450) :
  -463168356949264781694283940034751631411213077750319489567148635744460200702500 - 100000000000000000000000000000000000000000000000000000000000000000000000000000000 ≤ x * y ∧ x * y ≤ 463168356949264781694283940034751631411213077750319489567148635744460200702500 + 100000000000000000000000000000000000000000000000000000000000000000000000000000000 := by
 have h := Wd.abs_mul_le (x := x) (y := y) (a := 680564733841876926852962238568698216450) (b := 680564733841876926852962238568698216450) ⟨by omega, by omega⟩ ⟨by omega, by omega⟩
 omega
theorem P4.fit {ax ay bx b_ cx cy dx dy : Int} (h : P4 ax ay bx b_ cx cy dx dy) : Wd.Fit 5 (Wd.circ ax ay bx b_ cx cy dx dy) := by
 have e1 := ZdH (Wd.nrm_bd h.a h.b h.g h.h) (Wd.mnr_bd h.c h.d h.e h.f h.g h.h)
 have e2 := ZdH (Wd.nrm_bd h.c h.d h.g h.h) (Wd.mnr_bd h.e h.f h.a h.b h.g h.h)
 have e3 := ZdH (Wd.nrm_bd h.e h.f h.g h.h) (Wd.mnr_bd h.a h.b h.c h.d h.g h.h)
 unfold Wd.Fit Wd.circ
 rw [show Wd.S 5 = 2135987035920910082395021706169552114602704522356652769947041607822219725780640550022962086936576 from rfl]
 omega
end Go.Proofs.YtjdiilkljgljkaaGreatDoor
