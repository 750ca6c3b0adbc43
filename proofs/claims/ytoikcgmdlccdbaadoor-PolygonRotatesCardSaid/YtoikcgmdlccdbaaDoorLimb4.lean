/- Contracts of limb.Sign and limb.Select. -/
import Derived.Test.YtoikcgmdlccdbaaDoorLimb2
import Derived.Deep.RegionHeld3
namespace Go.Proofs.YtoikcgmdlccdbaaDoor
set_option linter.unusedVariables false
set_option linter.unusedSimpArgs false
open Go.RowKit Wd

/-- the union of the first k words -/
def uni (f : Nat → Int) : Nat → Int
  | 0 => 0
  | k + 1 => bits .or .u64 (uni f k) (f k)
theorem or_zero_w {a b : Int} (ha : IsW a) (hb : IsW b) : bits .or .u64 a b = 0 ↔ a = 0 ∧ b = 0 := by
  unfold IsW at *
  rw [u64_or a b ha.1 ha.2 hb.1 hb.2]
  have := Nat.or_eq_zero_iff (n := a.toNat) (m := b.toNat)
  omega
theorem uni_w (f : Nat → Int) : ∀ n, (∀ i, i < n → IsW (f i)) → IsW (uni f n) ∧ (uni f n = 0 ↔ ∀ i, i < n → f i = 0)
  | 0, _ => ⟨by unfold IsW uni; omega, by simp [uni]⟩
  | n + 1, h => by
    obtain ⟨h1, h2⟩ := uni_w f n (fun i hi => h i (by omega))
    have hn := h n (by omega)
    refine ⟨or_w h1 hn, ?_⟩
    unfold uni
    rw [or_zero_w h1 hn, h2]
    constructor
    · intro ⟨h3, h4⟩ i hi
      by_cases hin : i < n
      · exact h3 i hin
      · rw [show i = n from by omega]; exact h4
    · intro h3
      exact ⟨fun i hi => h3 i (by omega), h3 n (by omega)⟩

theorem sgn_of {n : Nat} {x : Int} (h : Fit n x) : sgnM (decide (x < 0)) (decide (uni (lmb x) n = 0)) = sg x := by
  unfold sg
  have hu := (uni_w (lmb x) n (fun i _ => isW_lmb x i)).2
  have hz : uni (lmb x) n = 0 ↔ x = 0 := by
    rw [hu]
    exact ⟨fun h0 => zero_of_lmb h h0, fun h0 i _ => by rw [h0, lmb_zero]⟩
  have e : decide (uni (lmb x) n = 0) = decide (x = 0) := decide_eq_decide.2 hz
  rw [e]
  unfold sgnM
  rcases (by omega : x < 0 ∨ x = 0 ∨ 0 < x) with h1 | h1 | h1
  · simp [h1, Int.sign_eq_neg_one_of_neg h1]
  · subst h1; simp
  · rw [Int.sign_eq_one_of_pos h1]; simp; omega

theorem limb_Sign (A : Option Addr) (n c : Nat) (x : Int) (w : World) (ha : Sl w .u64 A n c (lmb x)) (hx : Fit n x) (hn : isN n = true) (hT : TabM w) :
    Calls Tryd.prog 79 #[.slice A n c] w fun e w' => e = .returned (.int .i64 (sg x)) ∧ Below w.heap.size w w' := by
  have hn' := isN_true hn
  have hmax := ha.max; have hcap := ha.cap
  obtain ⟨b, off, rfl, hlt, hc⟩ := ha.at_ (by omega)
  have hs := sgn_of hx
  have hu := uni_w (lmb x) n (fun i _ => isW_lmb x i)
  have htop : decide (9223372036854775808 ≤ lmb x (n - 1)) = decide (x < 0) := by
    obtain ⟨k, rfl⟩ : ∃ k, n = k + 1 := ⟨n - 1, by omega⟩
    rw [Nat.add_sub_cancel, decide_eq_decide.2 (top_neg hx)]
  have HN := Lib.hid hn; have HC := Lib.hid hc; have HS := Lib.hid hs; have HU := Lib.hid hu.1; have HT := Lib.hid hT; have HP := Lib.hid htop
  have hb0 : Below w.heap.size w (w.alloc (.cells #[.slice (some ⟨b, off, none⟩) n c] 94)) := (Below.refl w.heap.size w).alloc (Nat.le_refl _) _
  have HB0 := Lib.hid hb0
  clear hn hc hs hu hT ha hx htop hb0
  go_enter Tryd.func79, Tryd.ntmps79
  go_wp2_with fail
  refine (limb_is1 _ (some ⟨b, off, none⟩) n c (by omega) _ (by simp [go_sem])).mono ?_
  rintro e w1 ⟨rfl, rfl⟩
  rw [HN.out]
  go_wp2_with fail
  obtain ⟨w1, hw1⟩ : ∃ w1, w1 = w.alloc (.cells #[.slice (some ⟨b, off, none⟩) n c] 94) := ⟨_, rfl⟩
  rw [← hw1] at HB0 ⊢
  clear hw1
  go_loop [3, 12] (fun u i => ∃ k : Nat, k ≤ n ∧ i = .int .i64 k ∧ u = .int .u64 (uni (lmb x) k)) (fun _ i => n - (intOf i).toNat)
  case atStart => exact ⟨0, Nat.zero_le _, rfl, rfl⟩
  case round =>
    obtain ⟨k, hk, rfl, rfl⟩ := hrel
    by_cases hlt2 : k < n
    · have c1 : w1.cell? ⟨b, off + k, none⟩ = some (.int .u64 (lmb x k)) := (HB0.out.cell (p := ⟨b, off + k, none⟩) hlt).trans (HC.out k hlt2)
      go_wp2_with fail
      go_round
      case rel => exact ⟨k + 1, by omega, by go_num, rfl⟩
      case measure => simp [intOf]; omega
    · obtain rfl : k = n := by omega
      have c1 : w1.cell? ⟨b, off + (k - 1), none⟩ = some (.int .u64 (lmb x (k - 1))) := (HB0.out.cell (p := ⟨b, off + (k - 1), none⟩) hlt).trans (HC.out (k - 1) (by omega))
      go_wp2_with fail
      refine (word_Fill _ (isW_lmb _ _) _).mono ?_
      rintro e w2 ⟨rfl, rfl⟩
      rw [HP.out]
      go_wp2_with fail
      refine (mask_Zero _ HU.out _).mono ?_
      rintro e w2 ⟨rfl, rfl⟩
      go_wp2_with fail
      refine (mask_Sign _ _ _ (HT.out.below HB0.out (Nat.le_refl _))).mono ?_
      rintro e w2 ⟨rfl, nq, rfl⟩
      rw [HS.out]
      go_wp2_with fail
      go_ret
      exact ⟨rfl, HB0.out.trans ⟨rfl, rfl, rfl, Nat.le_refl _, fun _ _ => rfl⟩⟩
theorem limb_Sign_no (A : Option Addr) (n c : Nat) (f : Nat → Int) (w : World) (ha : Sl w .u64 A n c f) (hn : isN n = false) :
    Calls Tryd.prog 79 #[.slice A n c] w fun e w' => e = .returned (.int .i64 0) ∧ Below w.heap.size w w' := by
  have hmax := ha.max; have hcap := ha.cap
  have HN := Lib.hid hn
  clear hn ha
  go_enter Tryd.func79, Tryd.ntmps79
  go_wp2_with fail
  refine (limb_is1 _ A n c (by omega) _ (by simp [go_sem])).mono ?_
  rintro e w1 ⟨rfl, rfl⟩
  rw [HN.out]
  go_wp2_with fail
  go_ret
  exact ⟨rfl, (Below.refl w.heap.size w).alloc (Nat.le_refl _) _⟩


/-- limb.Mul where its arguments are no integers, or too many limbs would come out -/
theorem limb_Mul_no (A A' : Option Addr) (n c m c' : Nat) (f g : Nat → Int) (w : World) (ha : Sl w .u64 A n c f) (hb : Sl w .u64 A' m c' g) (hN : n ≤ 1000) (hM : m ≤ 1000) (hn : (isN n && isN m) = false ∨ 8 < n + m) :
    Calls Tryd.prog 114 #[.slice A n c, .slice A' m c'] w fun e w' => e = .returned (.slice none 0 0) ∧ Below w.heap.size w w' := by
  have hmax := ha.max; have hmax' := hb.max; have hcap := ha.cap; have hcap' := hb.cap
  have HB := Lib.hid ((Below.refl w.heap.size w).alloc (Nat.le_refl _) (.cells #[.slice A n c, .slice A' m c'] 94)); clear ha hb
  cases hi : (isN n && isN m)
  · have HI := Lib.hid hi; clear hi hn
    go_enter Tryd.func114, Tryd.ntmps114
    go_wp2_with fail
    refine (limb_is2 _ A A' n c m c' (by omega) (by omega) _ (by simp [go_sem]) (by simp [go_sem])).mono ?_
    rintro e w1 ⟨rfl, rfl⟩
    rw [HI.out]
    go_wp2_with fail
    go_ret
    exact ⟨rfl, HB.out⟩
  · have hne : 8 < (n : Int) + (m : Int) := by
      have : 8 < n + m := by rcases hn with h | h; (rw [hi] at h; cases h); exact h
      omega
    have HI := Lib.hid hi; clear hi hn
    go_enter Tryd.func114, Tryd.ntmps114
    go_wp2_with fail
    refine (limb_is2 _ A A' n c m c' (by omega) (by omega) _ (by simp [go_sem]) (by simp [go_sem])).mono ?_
    rintro e w1 ⟨rfl, rfl⟩
    rw [HI.out]
    go_wp2_with fail
    go_ret
    exact ⟨rfl, HB.out⟩
end Go.Proofs.YtoikcgmdlccdbaaDoor
