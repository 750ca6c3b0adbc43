/- Contract of limb.Fits. -/
import Derived.Test.YteadkjbdbljbfaaDoorLimb5
namespace Go.Proofs.YteadkjbdbljbfaaDoor
set_option linter.unusedVariables false
set_option linter.unusedSimpArgs false
open Go.RowKit Wd

/-- whether x fits into n limbs -/
def fitB (n : Nat) (x : Int) : Bool := decide (-S n ≤ 2 * x ∧ 2 * x < S n)
theorem fitB_iff {n : Nat} {x : Int} : fitB n x = true ↔ Fit n x := by unfold fitB Fit; simp
theorem fit_fill {n k : Nat} {x : Int} (hx : Fit k x) (hn : 1 ≤ n) (hk : n ≤ k) : (∀ i, i < k → n ≤ i → lmb x i = msk (decide (9223372036854775808 ≤ lmb x (n - 1)))) ↔ Fit n x := by
  obtain ⟨m, rfl⟩ : ∃ m, n = m + 1 := ⟨n - 1, by omega⟩
  rw [Nat.add_sub_cancel]
  constructor
  · intro h
    obtain ⟨x', hf, hl⟩ := lmb_exists (lmb x) (m + 1) (fun i _ => isW_lmb x i)
    have e : x = x' := eq_of_lmb hx (fit_mono hf hk) fun i hi => by
      rcases Nat.lt_or_ge i (m + 1) with h1 | h1
      · exact (hl i h1).symm
      · have h2 : decide (9223372036854775808 ≤ lmb x m) = decide (x' < 0) := by
          have h3 := top_neg hf
          rw [hl m (by omega)] at h3
          exact decide_eq_decide.2 h3
        rw [h i hi h1, lmb_fill hf h1, h2]
    rw [e]; exact hf
  · intro h i _ h1
    have h2 : decide (9223372036854775808 ≤ lmb x m) = decide (x < 0) := decide_eq_decide.2 (top_neg h)
    rw [lmb_fill h h1, h2]
/-- the words that differ from the fill -/
def dfl (n : Nat) (x : Int) : Nat → Int := fun i => bits .xor .u64 (lmb x (n + i)) (msk (decide (9223372036854775808 ≤ lmb x (n - 1))))
theorem dfl_zero {n k : Nat} {x : Int} (hx : Fit k x) (hn : 1 ≤ n) (hk : n ≤ k) : decide (uni (dfl n x) (k - n) = 0) = fitB n x := by
  have h := (uni_w (dfl n x) (k - n) (fun i _ => xor_w (isW_lmb _ _) (isW_msk _))).2
  have h2 : uni (dfl n x) (k - n) = 0 ↔ Fit n x := by
    rw [h, ← fit_fill hx hn hk]
    constructor
    · intro h3 i hi hni
      have h4 := (xor_zero_iff (isW_lmb _ _) (isW_msk _)).1 (h3 (i - n) (by omega))
      rw [show n + (i - n) = i from by omega] at h4
      exact h4
    · intro h3 i hi
      exact (xor_zero_iff (isW_lmb _ _) (isW_msk _)).2 (h3 (n + i) (by omega) (by omega))
  rw [← fitB_iff] at h2
  cases hb : fitB n x
  · rw [hb] at h2; simp at h2; simpa using h2
  · rw [hb] at h2; simpa using h2
theorem limb_Fits_big (A : Option Addr) (k c : Nat) (f : Nat → Int) (ni : Int) (n : Nat) (hni : ni = n) (w : World) (ha : Sl w .u64 A k c f) (hk : isN k = true) (hn : isN n = true) (hle : k ≤ n) :
    Calls Tryd.prog 24 #[.slice A k c, .int .i64 ni] w fun e w' => e = .returned (.int .u64 (msk true)) ∧ Below w.heap.size w w' := by
  subst hni
  have hn' := isN_true hn
  have hmax := ha.max; have hcap := ha.cap
  have HB := Lib.hid ((Below.refl w.heap.size w).alloc (Nat.le_refl _) (.cells #[.slice A k c] 22)); clear ha
  have d1 : decide ((n : Int) < 1) = false := by simp; omega
  have d2 : decide (8 < (n : Int)) = false := by simp; omega
  have d3 : decide ((k : Int) ≤ (n : Int)) = true := by simp; omega
  go_enter Tryd.func24, Tryd.ntmps24
  go_wp2_with fail
  refine (limb_is1 _ A k c (by omega) _ (by simp [go_sem])).mono ?_
  rintro e w1 ⟨rfl, rfl⟩
  rw [hk]
  go_wp2_with fail
  refine (mask_Of 1 (by unfold IsW; omega) _).mono ?_
  rintro e w1 ⟨rfl, rfl⟩
  go_wp2_with fail
  go_ret
  exact ⟨rfl, HB.out⟩
theorem limb_Fits_no (A : Option Addr) (k c : Nat) (f : Nat → Int) (ni : Int) (w : World) (ha : Sl w .u64 A k c f) (h : isN k = false ∨ ni < 1 ∨ 8 < ni) :
    Calls Tryd.prog 24 #[.slice A k c, .int .i64 ni] w fun e w' => e = .returned (.int .u64 0) ∧ Below w.heap.size w w' := by
  have hmax := ha.max; have hcap := ha.cap
  have HB := Lib.hid ((Below.refl w.heap.size w).alloc (Nat.le_refl _) (.cells #[.slice A k c] 22)); clear ha
  cases hk : isN k
  · go_enter Tryd.func24, Tryd.ntmps24
    go_wp2_with fail
    refine (limb_is1 _ A k c (by omega) _ (by simp [go_sem])).mono ?_
    rintro e w1 ⟨rfl, rfl⟩
    rw [hk]
    go_wp2_with fail
    go_ret
    exact ⟨rfl, HB.out⟩
  · rcases (by simp [hk] at h; omega : ni < 1 ∨ (¬ ni < 1 ∧ 8 < ni)) with h1 | ⟨h1, h2⟩
    · have d1 : decide (ni < 1) = true := by simpa using h1
      go_enter Tryd.func24, Tryd.ntmps24
      go_wp2_with fail
      refine (limb_is1 _ A k c (by omega) _ (by simp [go_sem])).mono ?_
      rintro e w1 ⟨rfl, rfl⟩
      rw [hk]
      go_wp2_with fail
      go_ret
      exact ⟨rfl, HB.out⟩
    · have d1 : decide (ni < 1) = false := by simpa using h1
      have d2 : decide (8 < ni) = true := by simpa using h2
      go_enter Tryd.func24, Tryd.ntmps24
      go_wp2_with fail
      refine (limb_is1 _ A k c (by omega) _ (by simp [go_sem])).mono ?_
      rintro e w1 ⟨rfl, rfl⟩
      rw [hk]
      go_wp2_with fail
      go_ret
      exact ⟨rfl, HB.out⟩
theorem limb_Fits (A : Option Addr) (k c : Nat) (x : Int) (ni : Int) (n : Nat) (hni : ni = n) (w : World) (ha : Sl w .u64 A k c (lmb x)) (hx : Fit k x) (hk : isN k = true) (hn : isN n = true) (hlt : n < k) :
    Calls Tryd.prog 24 #[.slice A k c, .int .i64 ni] w fun e w' => e = .returned (.int .u64 (msk (fitB n x))) ∧ Below w.heap.size w w' := by
  subst hni
  have hn' := isN_true hn
  have hmax := ha.max; have hcap := ha.cap
  unfold maxLen at hmax
  obtain ⟨b, off, rfl, hblt, hc⟩ := ha.at_ (by omega)
  have HZ := Lib.hid (dfl_zero hx hn'.1 (Nat.le_of_lt hlt))
  have HU := Lib.hid (uni_w (dfl n x) (k - n) (fun i _ => xor_w (isW_lmb _ _) (isW_msk _))).1
  have HB := Lib.hid ((Below.refl w.heap.size w).alloc (Nat.le_refl _) (.cells #[.slice (some ⟨b, off, none⟩) k c] 22))
  have d1 : decide ((n : Int) < 1) = false := by simp; omega
  have d2 : decide (8 < (n : Int)) = false := by simp; omega
  have d3 : decide ((k : Int) ≤ (n : Int)) = false := by simp; omega
  have HC := Lib.hid hc; have HK := Lib.hid hk
  clear ha hc hk hx hn
  go_enter Tryd.func24, Tryd.ntmps24
  go_wp2_with fail
  refine (limb_is1 _ (some ⟨b, off, none⟩) k c (by unfold maxLen; omega) _ (by simp [go_sem])).mono ?_
  rintro e w1 ⟨rfl, rfl⟩
  rw [HK.out]
  obtain ⟨w1, hw1⟩ : ∃ w1, w1 = w.alloc (.cells #[.slice (some ⟨b, off, none⟩) k c] 22) := ⟨_, rfl⟩
  rw [← hw1] at HB ⊢
  clear hw1
  have c0 : w1.cell? ⟨b, off + (n - 1), none⟩ = some (.int .u64 (lmb x (n - 1))) := (HB.out.cell (p := ⟨b, off + (n - 1), none⟩) hblt).trans (HC.out (n - 1) (by omega))
  go_wp2_with fail
  refine (word_Fill _ (isW_lmb _ _) _).mono ?_
  rintro e w2 ⟨rfl, rfl⟩
  go_wp2_with fail
  obtain ⟨L, hL⟩ : ∃ L, L = k - n := ⟨_, rfl⟩
  rw [← hL] at HZ HU ⊢
  have hLk : L ≤ 100 := by have := isN_true HK.out; omega
  have HL := Lib.hid hL
  clear hL c0
  go_loop [6, 36] (fun u i => ∃ j : Nat, j ≤ L ∧ i = .int .i64 j ∧ u = .int .u64 (uni (dfl n x) j)) (fun _ i => L - (intOf i).toNat)
  case atStart => exact ⟨0, Nat.zero_le _, rfl, rfl⟩
  case round =>
    obtain ⟨j, hj, rfl, rfl⟩ := hrel
    by_cases hlt2 : j < L
    · have c1 : w1.cell? ⟨b, off + n + j, none⟩ = some (.int .u64 (lmb x (n + j))) := by
        have h0 := HL.out
        have h1 := (HB.out.cell (p := ⟨b, off + (n + j), none⟩) hblt).trans (HC.out (n + j) (by omega))
        rw [← Nat.add_assoc] at h1; exact h1
      go_wp2_with fail
      go_round
      case rel => exact ⟨j + 1, by omega, by go_num, rfl⟩
      case measure => simp [intOf]; omega
    · obtain rfl : j = L := by omega
      go_wp2_with fail
      refine (mask_Zero _ HU.out _).mono ?_
      rintro e w2 ⟨rfl, rfl⟩
      rw [HZ.out]
      go_wp2_with fail
      go_ret
      exact ⟨rfl, HB.out⟩
end Go.Proofs.YteadkjbdbljbfaaDoor
