/- Contract of limb.Compare. -/
import Derived.Test.YteadkjbdbljbfaaDoorLimb4
namespace Go.Proofs.YteadkjbdbljbfaaDoor
set_option linter.unusedVariables false
set_option linter.unusedSimpArgs false
open Go.RowKit Wd

/-- x, moved by half of n limbs -/
def fl (n : Nat) (x : Int) : Int := x + 9223372036854775808 * S (n - 1)
theorem fl_low (x : Int) {n i : Nat} (h : i < n - 1) : lmb (fl n x) i = lmb x i := by
  unfold fl; exact lmb_cong _ _ h
theorem fl_top (x : Int) (n : Nat) : lmb (fl n x) (n - 1) = lo (lmb x (n - 1) + 9223372036854775808) := by
  unfold fl lmb lo
  rw [qt_add_mul]; omega
theorem fl_range {x : Int} {n : Nat} (h : Fit n x) (hn : 1 ≤ n) : 0 ≤ fl n x ∧ fl n x < S n := by
  obtain ⟨k, rfl⟩ : ∃ k, n = k + 1 := ⟨n - 1, by omega⟩
  unfold Fit at h; unfold fl
  rw [S_succ] at *
  rw [Nat.add_sub_cancel]; omega
theorem brw_fl {x y : Int} {n : Nat} (hx : Fit n x) (hy : Fit n y) (hn : 1 ≤ n) : (brw (fl n x) (fl n y) n % 2 = 1) ↔ x < y := by
  have h1 := fl_range hx hn
  have h2 := fl_range hy hn
  have e : fl n x - fl n y = x - y := by unfold fl; omega
  have hS := S_pos n
  unfold brw qt
  rw [Int.ediv_eq_zero_of_lt h1.1 h1.2, Int.ediv_eq_zero_of_lt h2.1 h2.2, e]
  rcases (by omega : x < y ∨ y ≤ x) with h | h
  · have : (x - y) / S n = -1 := by
      refine Int.le_antisymm ?_ ?_
      · have := Int.ediv_lt_of_lt_mul (a := x - y) (b := 0) hS (by omega); omega
      · exact Int.le_ediv_of_mul_le hS (by omega)
    rw [this]; simp [h]
  · rw [Int.ediv_eq_zero_of_lt (by omega) (by omega)]; simp; omega
/-- the words in which two numbers differ -/
def dif (n : Nat) (x y : Int) : Nat → Int := fun i => bits .xor .u64 (lmb (fl n x) i) (lmb (fl n y) i)
theorem xor_zero_iff {a b : Int} (ha : IsW a) (hb : IsW b) : bits .xor .u64 a b = 0 ↔ a = b := by
  constructor
  · intro h
    have h1 := xor_xor_w ha hb
    rw [h, xor_zero_w hb] at h1; exact h1.symm
  · intro h; subst h
    have h1 := xor_xor_w ha (show IsW 0 by unfold IsW; omega)
    rw [xor_zero_w ha] at h1
    unfold IsW at *
    rw [u64_xor a a ha.1 ha.2 ha.1 ha.2]; simp
theorem dif_zero {x y : Int} {n : Nat} (hx : Fit n x) (hy : Fit n y) : uni (dif n x y) n = 0 ↔ x = y := by
  rw [(uni_w (dif n x y) n (fun i _ => xor_w (isW_lmb _ _) (isW_lmb _ _))).2]
  constructor
  · intro h
    refine eq_of_lmb hx hy fun i hi => ?_
    have h1 := (xor_zero_iff (isW_lmb _ _) (isW_lmb _ _)).1 (h i hi)
    rcases (by omega : i < n - 1 ∨ i = n - 1) with h2 | h2
    · rw [fl_low x h2, fl_low y h2] at h1; exact h1
    · subst h2
      rw [fl_top, fl_top] at h1
      have w1 := isW_lmb x (n - 1); have w2 := isW_lmb y (n - 1)
      unfold lo IsW at *; omega
  · rintro rfl i _
    exact (xor_zero_iff (isW_lmb _ _) (isW_lmb _ _)).2 rfl
theorem cmp_of {x y : Int} {n : Nat} (hx : Fit n x) (hy : Fit n y) (hn : 1 ≤ n) : sgnM (decide (brw (fl n x) (fl n y) n % 2 = 1)) (decide (uni (dif n x y) n = 0)) = sg (x - y) := by
  have e1 : decide (brw (fl n x) (fl n y) n % 2 = 1) = decide (x < y) := decide_eq_decide.2 (brw_fl hx hy hn)
  have e2 : decide (uni (dif n x y) n = 0) = decide (x = y) := decide_eq_decide.2 (dif_zero hx hy)
  rw [e1, e2]
  unfold sgnM sg
  rcases (by omega : x < y ∨ x = y ∨ y < x) with h1 | h1 | h1
  · rw [Int.sign_eq_neg_one_of_neg (by omega : x - y < 0)]; simp [h1]
  · subst h1; simp
  · rw [Int.sign_eq_one_of_pos (by omega : 0 < x - y)]
    have h2 : ¬ x < y := by omega
    have h3 : ¬ x = y := by omega
    simp [h2, h3]
theorem info_cmp : True := trivial

theorem limb_Compare (A A' : Option Addr) (n c c' : Nat) (x y : Int) (w : World) (ha : Sl w .u64 A n c (lmb x)) (hb : Sl w .u64 A' n c' (lmb y)) (hx : Fit n x) (hy : Fit n y) (hn : isN n = true) (hT : TabM w) :
    Calls Tryd.prog 29 #[.slice A n c, .slice A' n c'] w fun e w' => e = .returned (.int .i64 (sg (x - y))) ∧ Below w.heap.size w w' := by
  have hn' := isN_true hn
  have hmax := ha.max; have hcap := ha.cap; have hmax' := hb.max; have hcap' := hb.cap
  obtain ⟨b, off, rfl, hlt, hc⟩ := ha.at_ (by omega)
  obtain ⟨b', off', rfl, hlt', hc'⟩ := hb.at_ (by omega)
  have hs := cmp_of hx hy hn'.1
  have hu := uni_w (dif n x y) n (fun i _ => xor_w (isW_lmb _ _) (isW_lmb _ _))
  have HN := Lib.hid hn; have HC := Lib.hid hc; have HC' := Lib.hid hc'; have HS := Lib.hid hs; have HU := Lib.hid hu.1; have HT := Lib.hid hT
  have hne : ((n : Int) != (n : Int)) = false := by simp
  have hb0 : Below w.heap.size w (w.alloc (.cells #[.slice (some ⟨b, off, none⟩) n c, .slice (some ⟨b', off', none⟩) n c'] 22)) := (Below.refl w.heap.size w).alloc (Nat.le_refl _) _
  have HB0 := Lib.hid hb0
  clear hn hc hc' hs hu hT ha hb hx hy hb0
  go_enter Tryd.func29, Tryd.ntmps29
  go_wp2_with fail
  refine (limb_is2 _ (some ⟨b, off, none⟩) (some ⟨b', off', none⟩) n c n c' (by omega) (by omega) _ (by simp [go_sem]) (by simp [go_sem])).mono ?_
  rintro e w1 ⟨rfl, rfl⟩
  rw [HN.out]
  go_wp2_with fail
  have fl1 : ∀ k, k < n - 1 → lmb x k = lmb (fl n x) k ∧ lmb y k = lmb (fl n y) k := fun k h => ⟨(fl_low x h).symm, (fl_low y h).symm⟩
  have fl2 : bits .xor .u64 (lmb x (n - 1)) 9223372036854775808 = lmb (fl n x) (n - 1) ∧ bits .xor .u64 (lmb y (n - 1)) 9223372036854775808 = lmb (fl n y) (n - 1) := ⟨by rw [flip_w (isW_lmb _ _), fl_top], by rw [flip_w (isW_lmb _ _), fl_top]⟩
  have FL1 := Lib.hid fl1; have FL2 := Lib.hid fl2
  clear fl1 fl2
  obtain ⟨w1, hw1⟩ : ∃ w1, w1 = w.alloc (.cells #[.slice (some ⟨b, off, none⟩) n c, .slice (some ⟨b', off', none⟩) n c'] 22) := ⟨_, rfl⟩
  rw [← hw1] at HB0 ⊢
  clear hw1
  go_loopw [6, 7, 25] (fun u v i wr => ∃ k : Nat, k ≤ n ∧ i = .int .i64 k ∧ u = .int .u64 (uni (dif n x y) k) ∧ v = .int .u64 (brw (fl n x) (fl n y) k) ∧ Below w.heap.size w wr) (fun _ _ i _ => n - (intOf i).toNat)
  case atStart => exact ⟨0, Nat.zero_le _, rfl, rfl, by rw [brw_zero], HB0.out⟩
  case round =>
    obtain ⟨k, hk, rfl, rfl, rfl, hbr⟩ := hrel
    have HBR := Lib.hid hbr
    clear hbr HB0
    by_cases hlt2 : k < n
    · have c1 : wr.cell? ⟨b, off + k, none⟩ = some (.int .u64 (lmb x k)) := (HBR.out.cell (p := ⟨b, off + k, none⟩) hlt).trans (HC.out k hlt2)
      have c2 : wr.cell? ⟨b', off' + k, none⟩ = some (.int .u64 (lmb y k)) := (HBR.out.cell (p := ⟨b', off' + k, none⟩) hlt').trans (HC'.out k hlt2)
      by_cases htop : k = n - 1
      · have hd : ((k : Int) == (n : Int) - 1) = true := by simp; omega
        have HTOP := Lib.hid htop; clear htop
        go_wp2_with fail
        go_quiet (fail)
        go_wp2_with fail
        have e1 : bits .xor .u64 (lmb x k) 9223372036854775808 = lmb (fl n x) k := by rw [HTOP.out]; exact FL2.out.1
        have e2 : bits .xor .u64 (lmb y k) 9223372036854775808 = lmb (fl n y) k := by rw [HTOP.out]; exact FL2.out.2
        rw [e1, e2]
        clear e1 e2
        refine (word_Sub_step (fl n x) (fl n y) k _).mono ?_
        rintro e w5 ⟨rfl, rfl⟩
        go_wp2_with fail
        go_roundw
        case rel => exact ⟨k + 1, by omega, by go_num, rfl, rfl, ⟨HBR.out.os, HBR.out.tape, HBR.out.output, HBR.out.size, HBR.out.block⟩⟩
        case measure => simp [intOf]; omega
      · have hd : ((k : Int) == (n : Int) - 1) = false := by simp; omega
        have HTOP := Lib.hid htop; clear htop
        go_wp2_with fail
        go_quiet (fail)
        go_wp2_with fail
        have hk1 : k < n - 1 := by have := HTOP.out; omega
        rw [(FL1.out k hk1).1, (FL1.out k hk1).2]
        refine (word_Sub_step (fl n x) (fl n y) k _).mono ?_
        rintro e w5 ⟨rfl, rfl⟩
        go_wp2_with fail
        go_roundw
        case rel => exact ⟨k + 1, by omega, by go_num, rfl, rfl, ⟨HBR.out.os, HBR.out.tape, HBR.out.output, HBR.out.size, HBR.out.block⟩⟩
        case measure => simp [intOf]; omega
    · obtain rfl : k = n := by omega
      go_wp2_with fail
      refine (mask_Of _ (isW_brw _ _ _) _).mono ?_
      rintro e w2 ⟨rfl, rfl⟩
      go_wp2_with fail
      refine (mask_Zero _ HU.out _).mono ?_
      rintro e w2 ⟨rfl, rfl⟩
      go_wp2_with fail
      refine (mask_Sign _ _ _ (HT.out.below HBR.out (Nat.le_refl _))).mono ?_
      rintro e w2 ⟨rfl, nq, rfl⟩
      rw [HS.out]
      go_wp2_with fail
      go_ret
      exact ⟨rfl, HBR.out.trans ⟨rfl, rfl, rfl, Nat.le_refl _, fun _ _ => rfl⟩⟩
theorem limb_Compare_no (A A' : Option Addr) (n c m c' : Nat) (f g : Nat → Int) (w : World) (ha : Sl w .u64 A n c f) (hb : Sl w .u64 A' m c' g) (hn : (isN n && isN m) = false ∨ n ≠ m) :
    Calls Tryd.prog 29 #[.slice A n c, .slice A' m c'] w fun e w' => e = .returned (.int .i64 0) ∧ Below w.heap.size w w' := by
  have hmax := ha.max; have hmax' := hb.max; have hcap := ha.cap; have hcap' := hb.cap
  have HB := Lib.hid ((Below.refl w.heap.size w).alloc (Nat.le_refl _) (.cells #[.slice A n c, .slice A' m c'] 22)); clear ha hb
  cases hi : (isN n && isN m)
  · go_enter Tryd.func29, Tryd.ntmps29
    go_wp2_with fail
    refine (limb_is2 _ A A' n c m c' (by omega) (by omega) _ (by simp [go_sem]) (by simp [go_sem])).mono ?_
    rintro e w1 ⟨rfl, rfl⟩
    rw [hi]
    go_wp2_with fail
    go_ret
    exact ⟨rfl, HB.out⟩
  · have hne : ((n : Int) != (m : Int)) = true := by
      rw [hi] at hn
      rcases hn with h | h
      · cases h
      · simp; omega
    go_enter Tryd.func29, Tryd.ntmps29
    go_wp2_with fail
    refine (limb_is2 _ A A' n c m c' (by omega) (by omega) _ (by simp [go_sem]) (by simp [go_sem])).mono ?_
    rintro e w1 ⟨rfl, rfl⟩
    rw [hi]
    go_wp2_with fail
    go_ret
    exact ⟨rfl, HB.out⟩
end Go.Proofs.YteadkjbdbljbfaaDoor
