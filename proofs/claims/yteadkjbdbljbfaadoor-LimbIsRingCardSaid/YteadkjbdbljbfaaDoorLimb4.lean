/- Contracts of limb.Sign and limb.Select. -/
import Derived.Test.YteadkjbdbljbfaaDoorLimb2
import Derived.Deep.RegionHeld3
namespace Go.Proofs.YteadkjbdbljbfaaDoor
set_option linter.unusedVariables false
set_option linter.unusedSimpArgs false
open Go.RowKit Wd

/-- the union of the first k words -/
def uni (f : Nat → Int) : Nat → Int
  | 0 => 0
  | k + 1 => bits .or .u64 (uni f k) (f k)
theorem or_zero_w {a b : Int} (ha : IsW a) (hb : IsW b) : bits .or .u64 a b = 0 ↔ a = 0 ∧ b = 0 := by
  unfold IsW at *
  rw [u64_or a b ha.1 ha.2 hb.1 hb.2]
  have := Nat.or_eq_zero_iff (n := a.toNat) (m := b.toNat)
  omega
theorem uni_w (f : Nat → Int) : ∀ n, (∀ i, i < n → IsW (f i)) → IsW (uni f n) ∧ (uni f n = 0 ↔ ∀ i, i < n → f i = 0)
  | 0, _ => ⟨by unfold IsW uni; omega, by simp [uni]⟩
  | n + 1, h => by
    obtain ⟨h1, h2⟩ := uni_w f n (fun i hi => h i (by omega))
    have hn := h n (by omega)
    refine ⟨or_w h1 hn, ?_⟩
    unfold uni
    rw [or_zero_w h1 hn, h2]
    constructor
    · intro ⟨h3, h4⟩ i hi
      by_cases hin : i < n
      · exact h3 i hin
      · rw [show i = n from by omega]; exact h4
    · intro h3
      exact ⟨fun i hi => h3 i (by omega), h3 n (by omega)⟩

theorem sgn_of {n : Nat} {x : Int} (h : Fit n x) : sgnM (decide (x < 0)) (decide (uni (lmb x) n = 0)) = sg x := by
  unfold sg
  have hu := (uni_w (lmb x) n (fun i _ => isW_lmb x i)).2
  have hz : uni (lmb x) n = 0 ↔ x = 0 := by
    rw [hu]
    exact ⟨fun h0 => zero_of_lmb h h0, fun h0 i _ => by rw [h0, lmb_zero]⟩
  have e : decide (uni (lmb x) n = 0) = decide (x = 0) := decide_eq_decide.2 hz
  rw [e]
  unfold sgnM
  rcases (by omega : x < 0 ∨ x = 0 ∨ 0 < x) with h1 | h1 | h1
  · simp [h1, Int.sign_eq_neg_one_of_neg h1]
  · subst h1; simp
  · rw [Int.sign_eq_one_of_pos h1]; simp; omega

theorem limb_Sign (A : Option Addr) (n c : Nat) (x : Int) (w : World) (ha : Sl w .u64 A n c (lmb x)) (hx : Fit n x) (hn : isN n = true) (hT : TabM w) :
    Calls Tryd.prog 28 #[.slice A n c] w fun e w' => e = .returned (.int .i64 (sg x)) ∧ Below w.heap.size w w' := by
  have hn' := isN_true hn
  have hmax := ha.max; have hcap := ha.cap
  obtain ⟨b, off, rfl, hlt, hc⟩ := ha.at_ (by omega)
  have hs := sgn_of hx
  have hu := uni_w (lmb x) n (fun i _ => isW_lmb x i)
  have htop : decide (9223372036854775808 ≤ lmb x (n - 1)) = decide (x < 0) := by
    obtain ⟨k, rfl⟩ : ∃ k, n = k + 1 := ⟨n - 1, by omega⟩
    rw [Nat.add_sub_cancel, decide_eq_decide.2 (top_neg hx)]
  have HN := Lib.hid hn; have HC := Lib.hid hc; have HS := Lib.hid hs; have HU := Lib.hid hu.1; have HT := Lib.hid hT; have HP := Lib.hid htop
  have hb0 : Below w.heap.size w (w.alloc (.cells #[.slice (some ⟨b, off, none⟩) n c] 22)) := (Below.refl w.heap.size w).alloc (Nat.le_refl _) _
  have HB0 := Lib.hid hb0
  clear hn hc hs hu hT ha hx htop hb0
  go_enter Tryd.func28, Tryd.ntmps28
  go_wp2_with fail
  refine (limb_is1 _ (some ⟨b, off, none⟩) n c (by omega) _ (by simp [go_sem])).mono ?_
  rintro e w1 ⟨rfl, rfl⟩
  rw [HN.out]
  go_wp2_with fail
  obtain ⟨w1, hw1⟩ : ∃ w1, w1 = w.alloc (.cells #[.slice (some ⟨b, off, none⟩) n c] 22) := ⟨_, rfl⟩
  rw [← hw1] at HB0 ⊢
  clear hw1
  go_loop [3, 12] (fun u i => ∃ k : Nat, k ≤ n ∧ i = .int .i64 k ∧ u = .int .u64 (uni (lmb x) k)) (fun _ i => n - (intOf i).toNat)
  case atStart => exact ⟨0, Nat.zero_le _, rfl, rfl⟩
  case round =>
    obtain ⟨k, hk, rfl, rfl⟩ := hrel
    by_cases hlt2 : k < n
    · have c1 : w1.cell? ⟨b, off + k, none⟩ = some (.int .u64 (lmb x k)) := (HB0.out.cell (p := ⟨b, off + k, none⟩) hlt).trans (HC.out k hlt2)
      go_wp2_with fail
      go_round
      case rel => exact ⟨k + 1, by omega, by go_num, rfl⟩
      case measure => simp [intOf]; omega
    · obtain rfl : k = n := by omega
      have c1 : w1.cell? ⟨b, off + (k - 1), none⟩ = some (.int .u64 (lmb x (k - 1))) := (HB0.out.cell (p := ⟨b, off + (k - 1), none⟩) hlt).trans (HC.out (k - 1) (by omega))
      go_wp2_with fail
      refine (word_Fill _ (isW_lmb _ _) _).mono ?_
      rintro e w2 ⟨rfl, rfl⟩
      rw [HP.out]
      go_wp2_with fail
      refine (mask_Zero _ HU.out _).mono ?_
      rintro e w2 ⟨rfl, rfl⟩
      go_wp2_with fail
      refine (mask_Sign _ _ _ (HT.out.below HB0.out (Nat.le_refl _))).mono ?_
      rintro e w2 ⟨rfl, nq, rfl⟩
      rw [HS.out]
      go_wp2_with fail
      go_ret
      exact ⟨rfl, HB0.out.trans ⟨rfl, rfl, rfl, Nat.le_refl _, fun _ _ => rfl⟩⟩
theorem limb_Sign_no (A : Option Addr) (n c : Nat) (f : Nat → Int) (w : World) (ha : Sl w .u64 A n c f) (hn : isN n = false) :
    Calls Tryd.prog 28 #[.slice A n c] w fun e w' => e = .returned (.int .i64 0) ∧ Below w.heap.size w w' := by
  have hmax := ha.max; have hcap := ha.cap
  have HN := Lib.hid hn
  clear hn ha
  go_enter Tryd.func28, Tryd.ntmps28
  go_wp2_with fail
  refine (limb_is1 _ A n c (by omega) _ (by simp [go_sem])).mono ?_
  rintro e w1 ⟨rfl, rfl⟩
  rw [HN.out]
  go_wp2_with fail
  go_ret
  exact ⟨rfl, (Below.refl w.heap.size w).alloc (Nat.le_refl _) _⟩

theorem mask_Select_step (m : Bool) (f g : Nat → Int) (i : Nat) (hf : IsW (f i)) (hg : IsW (g i)) (w : World) : Calls Tryd.prog 43 #[.int .u64 (msk m), .int .u64 (f i), .int .u64 (g i)] w fun e w' => e = .returned (.int .u64 (selI m (f i) (g i))) ∧ w' = w :=
  calls_flip (mask_Select m _ _ hf hg w)
set_option maxHeartbeats 400000 in
theorem limb_Select (mm : Int) (hmm : IsW mm) (A A' : Option Addr) (n c c' : Nat) (f g : Nat → Int) (w : World) (ha : Sl w .u64 A n c f) (hb : Sl w .u64 A' n c' g) (hf : ∀ i, i < n → IsW (f i)) (hg : ∀ i, i < n → IsW (g i)) (hn : isN n = true) :
    Calls Tryd.prog 21 #[.int .u64 mm, .slice A n c, .slice A' n c'] w fun e w' => ∃ q, e = .returned (.slice (some ⟨q, 0, none⟩) n n) ∧
      w'.ownsRow w.heap.size 38 1 (.slice (some ⟨q, 0, none⟩) n n) n (row .u64 (fun i => selI (decide (mm % 2 = 1)) (f i) (g i)) n) ∧ Below w.heap.size w w' := by
  obtain ⟨i0, hi0, hz0, hz1, hz2⟩ := info_parts info_u64
  have hn' := isN_true hn
  obtain ⟨b, off, rfl, hlt, hca⟩ := ha.at_ (by omega)
  obtain ⟨b', off', rfl, hlt', hcb⟩ := hb.at_ (by omega)
  have hmax := ha.max; have hmax' := hb.max; have hcap := ha.cap; have hcap' := hb.cap
  generalize hsel : decide (mm % 2 = 1) = sel
  have HSEL := Lib.hid hsel
  have HN := Lib.hid hn; have HA := Lib.hid hca; have HB := Lib.hid hcb; have HF := Lib.hid hf; have HG := Lib.hid hg
  clear hn hca hcb ha hb hf hg hsel
  go_enter Tryd.func21, Tryd.ntmps21
  go_wp2_with fail
  refine (limb_is2 _ (some ⟨b, off, none⟩) (some ⟨b', off', none⟩) n c n c' (by omega) (by omega) _ (by simp [go_sem]) (by simp [go_sem])).mono ?_
  rintro e w1 ⟨rfl, rfl⟩
  rw [HN.out]
  go_wp2_with fail
  refine (mask_Of mm hmm _).mono ?_
  rintro e w1 ⟨rfl, rfl⟩
  rw [HSEL.out]
  go_wp2_with (at_make; refine wpList_make_full _ rfl _ _ 22 rfl w.heap.size 38 i0 (.int .u64 0) 1 Tryd.underlying22 hi0 hz0 hz1 .i64 .i64 (n : Int) (n : Int) n rfl rfl rfl rfl (by rw [hz2]; omega) (by unfold maxLen; omega) (by simp) ?_)
  intro w2 hown hgrow
  have hb2 : Below w.heap.size w w2 := ((Below.refl w.heap.size w).alloc (Nat.le_refl _) _).grown hgrow (by simp) (by intro k hk; cases hk)
  rw [toList_madeCells_one, row_zero .u64 (fun i => selI sel (f i) (g i)) n] at hown
  have HO := Lib.hid hown; have HB2 := Lib.hid hb2
  have hg1 : w.heap.size + 1 < w2.heap.size := (hown.lt _ rfl).2
  clear hown hgrow hb2
  go_wp2_with fail
  go_loopw [28] (fun i wr => ∃ k : Nat, k ≤ n ∧ i = .int .i64 k ∧ wr.ownsRow w.heap.size 38 1 (.slice (some ⟨w.heap.size + 1, 0, none⟩) n n) n (row .u64 (upd (fun i => selI sel (f i) (g i)) k) n) ∧ Below w.heap.size w2 wr)
    (fun i _ => n - (intOf i).toNat)
  case atStart => exact ⟨0, Nat.zero_le _, rfl, HO.out, Below.refl _ _⟩
  case round =>
    clear HO
    obtain ⟨k, hk, rfl, hown, hbr⟩ := hrel
    by_cases hlt2 : k < n
    · have c2 : wr.cell? ⟨b, off + k, none⟩ = some (.int .u64 (f k)) := ((hbr.cell (p := ⟨b, off + k, none⟩) hlt).trans (HB2.out.cell (p := ⟨b, off + k, none⟩) hlt)).trans (HA.out k hlt2)
      have c3 : wr.cell? ⟨b', off' + k, none⟩ = some (.int .u64 (g k)) := ((hbr.cell (p := ⟨b', off' + k, none⟩) hlt').trans (HB2.out.cell (p := ⟨b', off' + k, none⟩) hlt')).trans (HB.out k hlt2)
      have c4 : wr.cell? ⟨w.heap.size + 1, k, none⟩ = some (.int .u64 0) := by
        rw [World.ownsRow.cellAt hown k (by omega), row_get hlt2]; simp [upd]
      have c5 : wr.frozen? ⟨w.heap.size + 1, k, none⟩ = false := World.ownsRow.frozenAt hown k
      have HFK := Lib.hid (HF.out k hlt2); have HGK := Lib.hid (HG.out k hlt2)
      have HOW := Lib.hid hown; have HBR := Lib.hid hbr
      clear hown hbr HA HB HB2 HF HG
      go_wp2_with fail
      go_region_held3 (fun w' => w'.cell? ⟨b, off + k, none⟩ = some (.int .u64 (f k)) ∧ w'.cell? ⟨b', off' + k, none⟩ = some (.int .u64 (g k))) (first | exact ⟨c2, c3⟩ | exact ⟨cell_far c2 (by simp; omega), cell_far c3 (by simp; omega)⟩) (first | (go_at_call 43; refine (mask_Select_step sel f g k HFK.out HGK.out _).mono ?_; rintro e w' ⟨rfl, rfl⟩))
      go_wp2_with fail
      go_roundw
      case rel => exact ⟨k + 1, by omega, by go_num, (own_store HOW.out rfl hlt2).drew, (HBR.out.setCell (p := ⟨w.heap.size + 1, k, none⟩) (by simp) _).drew⟩
      case measure => simp [intOf]; omega
    · go_wp2_with fail
      go_ret
      obtain rfl : k = n := by omega
      exact ⟨_, rfl, by rw [← row_upd_all]; exact hown, HB2.out.trans hbr⟩
theorem limb_Select_no (mm : Int) (A A' : Option Addr) (n c m c' : Nat) (f g : Nat → Int) (w : World) (ha : Sl w .u64 A n c f) (hb : Sl w .u64 A' m c' g) (hn : (isN n && isN m) = false ∨ n ≠ m) :
    Calls Tryd.prog 21 #[.int .u64 mm, .slice A n c, .slice A' m c'] w fun e w' => e = .returned (.slice none 0 0) ∧ Below w.heap.size w w' := by
  have hmax := ha.max; have hmax' := hb.max; have hcap := ha.cap; have hcap' := hb.cap
  have HB := Lib.hid ((Below.refl w.heap.size w).alloc (Nat.le_refl _) (.cells #[.slice A n c, .slice A' m c'] 22)); clear ha hb
  cases hi : (isN n && isN m)
  · have HI := Lib.hid hi; clear hi hn
    go_enter Tryd.func21, Tryd.ntmps21
    go_wp2_with fail
    refine (limb_is2 _ A A' n c m c' (by omega) (by omega) _ (by simp [go_sem]) (by simp [go_sem])).mono ?_
    rintro e w1 ⟨rfl, rfl⟩
    rw [HI.out]
    go_wp2_with fail
    go_ret
    exact ⟨rfl, HB.out⟩
  · have hne : ((n : Int) != (m : Int)) = true := by
      have : n ≠ m := by rcases hn with h | h; (rw [hi] at h; cases h); exact h
      simp; omega
    have HI := Lib.hid hi; clear hi hn
    go_enter Tryd.func21, Tryd.ntmps21
    go_wp2_with fail
    refine (limb_is2 _ A A' n c m c' (by omega) (by omega) _ (by simp [go_sem]) (by simp [go_sem])).mono ?_
    rintro e w1 ⟨rfl, rfl⟩
    rw [HI.out]
    go_wp2_with fail
    go_ret
    exact ⟨rfl, HB.out⟩

/-- limb.Mul where its arguments are no integers, or too many limbs would come out -/
theorem limb_Mul_no (A A' : Option Addr) (n c m c' : Nat) (f g : Nat → Int) (w : World) (ha : Sl w .u64 A n c f) (hb : Sl w .u64 A' m c' g) (hN : n ≤ 1000) (hM : m ≤ 1000) (hn : (isN n && isN m) = false ∨ 8 < n + m) :
    Calls Tryd.prog 19 #[.slice A n c, .slice A' m c'] w fun e w' => e = .returned (.slice none 0 0) ∧ Below w.heap.size w w' := by
  have hmax := ha.max; have hmax' := hb.max; have hcap := ha.cap; have hcap' := hb.cap
  have HB := Lib.hid ((Below.refl w.heap.size w).alloc (Nat.le_refl _) (.cells #[.slice A n c, .slice A' m c'] 22)); clear ha hb
  cases hi : (isN n && isN m)
  · have HI := Lib.hid hi; clear hi hn
    go_enter Tryd.func19, Tryd.ntmps19
    go_wp2_with fail
    refine (limb_is2 _ A A' n c m c' (by omega) (by omega) _ (by simp [go_sem]) (by simp [go_sem])).mono ?_
    rintro e w1 ⟨rfl, rfl⟩
    rw [HI.out]
    go_wp2_with fail
    go_ret
    exact ⟨rfl, HB.out⟩
  · have hne : 8 < (n : Int) + (m : Int) := by
      have : 8 < n + m := by rcases hn with h | h; (rw [hi] at h; cases h); exact h
      omega
    have HI := Lib.hid hi; clear hi hn
    go_enter Tryd.func19, Tryd.ntmps19
    go_wp2_with fail
    refine (limb_is2 _ A A' n c m c' (by omega) (by omega) _ (by simp [go_sem]) (by simp [go_sem])).mono ?_
    rintro e w1 ⟨rfl, rfl⟩
    rw [HI.out]
    go_wp2_with fail
    go_ret
    exact ⟨rfl, HB.out⟩
end Go.Proofs.YteadkjbdbljbfaaDoor
