/- Contracts of slices.Clone at words, limb.Extend and limb.From: an integer of m limbs becomes one of n limbs with the same value, or is cut. -/
import Derived.Test.YtoikcgmdlccdbaaDoorLimb0
import Derived.Test.YtoikcgmdlccdbaaDoorLimbMath
import Derived.WalkSpells
import Derived.Deep.AppendLies
namespace Go.Proofs.YtoikcgmdlccdbaaDoor
set_option linter.unusedVariables false
set_option linter.unusedSimpArgs false
set_option maxRecDepth 20000
open Go.RowKit Wd

theorem info_u64 : (Tryd.prog.info? 23).map (fun i => (i.zero, i.size, i.bytes)) = some (some (.int .u64 0), 1, 8) := by kernel_rfl

/-- slices.Clone of a slice that is not nil: a row of the call's own -/
theorem clone_some (b off n c : Nat) (f : Nat → Int) (w : World) (h : Sl w .u64 (some ⟨b, off, none⟩) n c f) (h0 : 0 < n) (hn : n ≤ 65536) :
    Calls Tryd.prog 105 #[.slice (some ⟨b, off, none⟩) n c] w fun e w' => ∃ g cap, e = .returned (.slice (some ⟨g, 0, none⟩) n cap) ∧ w'.ownsRow w.heap.size 23 1 (.slice (some ⟨g, 0, none⟩) n cap) n (row .u64 f n) ∧ Below w.heap.size w w' := by
  obtain ⟨i0, hi0, hz0, hz1, hz2⟩ := info_parts info_u64
  have hq : ∀ (w : World) (a : Option Addr) (n c n' c' : Nat), (binOp .eql 94 (.slice a n c) (.slice none n' c')).run Tryd.prog w = .ok (.bool a.isNone) w := fun w a n c n' c' => Lib.run_eql_slice_nil w _ _ a n c n' c' Tryd.underlying94
  obtain ⟨b', off', e, hlt, hc⟩ := h.at_ h0
  simp only [Option.some.injEq, Addr.mk.injEq, and_true] at e
  obtain ⟨rfl, rfl⟩ := e
  have hcells := Sl.cells (w := w) (c := c) hc
  have hcells' : ∀ j u, (row .u64 f n)[j]? = some u → (w.alloc (.cells #[] 23)).cell? ((⟨b, off, none⟩ : Addr).add j) = some u := by
    intro j u hu
    rw [World.cell?_alloc_lt _ _ _ (by unfold Addr.add; split <;> exact hlt)]
    exact hcells j u hu
  have HC := Lib.hid hcells'; clear hcells hcells' hc
  go_enter Tryd.func105, Tryd.ntmps105
  go_wp2_with (at_builtin; refine wpList_append_own _ rfl _ _ 94 rfl w.heap.size 23 i0 (.int .u64 0) 1 8 Tryd.underlying94 hi0 hz0 hz1 hz2 rfl (by decide) _ 0 [] rfl ?c0 ⟨b, off, none⟩ n c (row .u64 f n) rfl (by rw [row_length]; omega) HC.out (row_one _ _ _) (by unfold maxLen; omega) (by omega) (by simp) ?_)
  case c0 => exact World.ownsRow_lit w #[] 0 (Nat.le_refl _) (Nat.zero_le _) rfl
  intro v' w1 hown hgrow _
  have hB : Below w.heap.size w w1 := ((Below.refl w.heap.size w).alloc (Nat.le_refl _) _).grown hgrow (by simp) (by intro k hk; simp [Value.ownBlock, Act.eval] at hk; omega)
  go_wp2
  go_ret
  have hown' : w1.ownsRow w.heap.size 23 1 v' n (row .u64 f n) := by simpa using hown
  obtain ⟨g, cap, hv, -, -⟩ := hown'.form h0
  subst hv
  exact ⟨g, cap, rfl, hown', hB⟩

/-- the length of a slice value -/
def lenOf : Value → Nat | .slice _ n _ => n | _ => 0
theorem World.ownsRow_le {w : World} {base base' size n : Nat} {e : TypeId} {v : Value} {xs : List Value} (h : w.ownsRow base e size v n xs) (hb : base' ≤ base) : w.ownsRow base' e size v n xs := by
  obtain ⟨h1, h2⟩ := h
  refine ⟨h1, ?_⟩
  rcases h2 with h2 | ⟨g, cap, cur, hv, hg, r⟩
  · exact Or.inl h2
  · exact Or.inr ⟨g, cap, cur, hv, Nat.le_trans hb hg, r⟩

/-- what limb.Extend does where its argument is an integer: loop and cut -/
theorem limb_Extend (A : Option Addr) (n c : Nat) (x : Int) (mi : Int) (m : Nat) (hmi : mi = m) (w : World) (h : Sl w .u64 A n c (lmb x)) (hx : Fit n x) (hn : isN n = true) (hm : isN m = true) :
    Calls Tryd.prog 92 #[.slice A n c, .int .i64 mi] w fun e w' => ∃ A' c', e = .returned (.slice A' m c') ∧ Sl w' .u64 A' m c' (lmb x) ∧ Below w.heap.size w w' := by
  subst hmi
  obtain ⟨i0, hi0, hz0, hz1, hz2⟩ := info_parts info_u64
  have hn' := isN_true hn
  have hm' := isN_true hm
  obtain ⟨b, off, rfl, hlt, hc⟩ := h.at_ (by omega)
  have hfill : msk (decide (9223372036854775808 ≤ lmb x (n - 1))) = msk (decide (x < 0)) := by
    obtain ⟨k, rfl⟩ : ∃ k, n = k + 1 := ⟨n - 1, by omega⟩
    rw [Nat.add_sub_cancel, decide_eq_decide.2 (top_neg hx)]
  have hmax := h.max
  have hcap := h.cap
  have HN := Lib.hid hn; have HM := Lib.hid hm; have HC := Lib.hid hc; have HF := Lib.hid hfill; have HX := Lib.hid hx
  clear hn hm hc hfill hx
  go_enter Tryd.func92, Tryd.ntmps92
  go_wp2_with fail
  refine (limb_is1 _ (some ⟨b, off, none⟩) n c (by omega) _ (by simp [go_sem])).mono ?_
  rintro e w1 ⟨rfl, rfl⟩
  rw [HN.out]
  go_wp2_with fail
  refine (clone_some b off n c (lmb x) _ (h.alloc _) (by omega) (by omega)).mono ?_
  rintro e w1 ⟨g, cap, rfl, hown, hb1⟩
  have hb2 : Below w.heap.size w w1 := ((Below.refl w.heap.size w).alloc (Nat.le_refl _) _).trans (hb1.mono (by simp))
  have hc1 : w1.cell? ⟨b, off + (n - 1), none⟩ = some (.int .u64 (lmb x (n - 1))) := (hb2.cell (p := ⟨b, off + (n - 1), none⟩) hlt).trans (HC.out (n - 1) (by omega))
  go_wp2_with fail
  refine (word_Fill _ (isW_lmb x (n - 1)) _).mono ?_
  rintro e w2 ⟨rfl, rfl⟩
  rw [HF.out]
  clear hc1
  have hown' : w1.ownsRow w.heap.size 23 1 (.slice (some ⟨g, 0, none⟩) n cap) n (row .u64 (lmb x) n) := World.ownsRow_le hown (by simp)
  have HO := Lib.hid hown'; clear hown hown'
  have HB := Lib.hid hb2; clear hb2 hb1
  go_wp2_with fail
  go_loopw [5] (fun v wr => ∃ k g cap : Nat, v = .slice (some ⟨g, 0, none⟩) k cap ∧ n ≤ k ∧ k ≤ n + m ∧ (n < k → k ≤ m) ∧ wr.ownsRow w.heap.size 23 1 (.slice (some ⟨g, 0, none⟩) k cap) k (row .u64 (lmb x) k) ∧ Below w.heap.size w wr)
    (fun v _ => m - lenOf v)
  case atStart => exact ⟨n, g, cap, rfl, Nat.le_refl _, by omega, by omega, HO.out, HB.out⟩
  case round =>
    clear HO HB
    obtain ⟨k, g, cap, rfl, hk1, hk2, hk3, hown, hb⟩ := hrel
    by_cases hlt' : k < m
    · go_wp2_with (at_builtin; refine wpList_append_own _ rfl _ _ 94 rfl w.heap.size 23 i0 (.int .u64 0) 1 8 Tryd.underlying94 hi0 hz0 hz1 hz2 rfl (by decide) _ _ _ rfl (hown.alloc _) ⟨wr.heap.size, 0, none⟩ 1 1 [.int .u64 (msk (decide (x < 0)))] rfl rfl ?c1 ?c2 ?c3 ?c4 ?c5 ?_)
      case c1 => exact cells_one_new _ _ _
      case c2 => exact one_oneCell _ _
      case c3 => unfold maxLen; omega
      case c4 => omega
      case c5 => have := hb.size; simp; omega
      intro v' w2 hown2 hgrow _
      have hb3 : Below w.heap.size w w2 := (hb.alloc hb.size _).grown hgrow (by have := hb.size; simp; omega) (own_block_le hown)
      have hown3 := own_push hown2 (lmb_fill HX.out hk1).symm
      obtain ⟨g2, cap2, hv2, -, -⟩ := hown3.form (by omega)
      subst hv2
      have H3 := Lib.hid hown3; have B3 := Lib.hid hb3
      clear hown2 hgrow hown hb hb3 hown3
      go_wp2
      go_roundw
      case rel => exact ⟨k + 1, g2, cap2, rfl, by omega, by omega, by omega, H3.out, B3.out⟩
      case measure => simp [lenOf]; omega
    · have hsl := Sl.of_own hown
      obtain ⟨A', c', hv, hsl⟩ := hsl
      injection hv with e1 e2 e3
      subst e1 e3
      have hcc := hsl.cap
      have hcm := hsl.max
      have HS := Lib.hid hsl; have HB3 := Lib.hid hb
      clear hsl hown hb
      unfold maxLen at hcm
      go_wp2
      go_ret
      exact ⟨some ⟨g, 0, none⟩, m, rfl, HS.out.take (by omega), HB3.out⟩

/-- limb.Extend where its argument is no integer, or the number of limbs is none: nothing -/
theorem limb_Extend_no (A : Option Addr) (n c : Nat) (mi : Int) (f : Nat → Int) (w : World) (h : Sl w .u64 A n c f) (hno : isN n = false ∨ mi < 1 ∨ 8 < mi) (hm : IsI mi) :
    Calls Tryd.prog 92 #[.slice A n c, .int .i64 mi] w fun e w' => e = .returned (.slice none 0 0) ∧ Below w.heap.size w w' := by
  have hmax := h.max
  have hcap := h.cap
  clear hm
  have hb : Below w.heap.size w (w.alloc (.cells #[.slice A n c] 94)) := (Below.refl w.heap.size w).alloc (Nat.le_refl _) _
  have HB := Lib.hid hb; clear hb
  cases hn : isN n
  · have HN := Lib.hid hn; clear hn hno
    go_enter Tryd.func92, Tryd.ntmps92
    go_wp2_with fail
    refine (limb_is1 _ A n c (by omega) _ (by simp [go_sem])).mono ?_
    rintro e w1 ⟨rfl, rfl⟩
    rw [HN.out]
    go_wp2_with fail
    go_ret
    exact ⟨rfl, HB.out⟩
  · have h1 : mi < 1 ∨ 8 < mi := by rcases hno with h | h; (rw [hn] at h; cases h); exact h
    have HN := Lib.hid hn; clear hn hno
    rcases h1 with h1 | h1
    · go_enter Tryd.func92, Tryd.ntmps92
      go_wp2_with fail
      refine (limb_is1 _ A n c (by omega) _ (by simp [go_sem])).mono ?_
      rintro e w1 ⟨rfl, rfl⟩
      rw [HN.out]
      go_wp2_with fail
      go_ret
      exact ⟨rfl, HB.out⟩
    · have h2 : ¬ mi < 1 := by omega
      go_enter Tryd.func92, Tryd.ntmps92
      go_wp2_with fail
      refine (limb_is1 _ A n c (by omega) _ (by simp [go_sem])).mono ?_
      rintro e w1 ⟨rfl, rfl⟩
      rw [HN.out]
      go_wp2_with fail
      go_ret
      exact ⟨rfl, HB.out⟩

theorem sl_word (w : World) (x : Int) (t : TypeId) : Sl (w.alloc (.cells #[.int .u64 (IntKind.u64.wrap x)] t)) .u64 (some ⟨w.heap.size, 0, none⟩) 1 1 (lmb x) :=
  ⟨Nat.le_refl _, by decide, fun _ => ⟨w.heap.size, 0, rfl, by simp, fun i hi => by
    obtain rfl : i = 0 := by omega
    have e : lmb x 0 = IntKind.u64.wrap x := by unfold lmb; rw [qt_zero, IntKind.wrap_u64]
    rw [e]; simp [go_sem]⟩⟩

theorem limb_From (x : Int) (mi : Int) (m : Nat) (hmi : mi = m) (hx : IsI x) (hm : isN m = true) (w : World) :
    Calls Tryd.prog 111 #[.int .i64 x, .int .i64 mi] w fun e w' => ∃ A' c', e = .returned (.slice A' m c') ∧ Sl w' .u64 A' m c' (lmb x) ∧ Below w.heap.size w w' := by
  subst hmi
  have HX := Lib.hid (fit_I hx (Nat.le_refl 1)); clear hx
  have HM := Lib.hid hm; clear hm
  go_enter Tryd.func111, Tryd.ntmps111
  go_wp2_with fail
  refine (limb_Extend _ 1 1 x _ m rfl _ (sl_word w x _) HX.out rfl HM.out).mono ?_
  rintro e w1 ⟨A', c', rfl, hs, hb⟩
  go_wp2_with fail
  go_ret
  exact ⟨A', c', rfl, hs, ((Below.refl w.heap.size w).alloc (Nat.le_refl _) _).trans (hb.mono (by simp))⟩
theorem limb_From_no (x : Int) (mi : Int) (hx : IsI x) (hm : mi < 1 ∨ 8 < mi) (hi : IsI mi) (w : World) :
    Calls Tryd.prog 111 #[.int .i64 x, .int .i64 mi] w fun e w' => e = .returned (.slice none 0 0) ∧ Below w.heap.size w w' := by
  have HM := Lib.hid hm; clear hm
  go_enter Tryd.func111, Tryd.ntmps111
  go_wp2_with fail
  refine (limb_Extend_no _ 1 1 _ (lmb x) _ (sl_word w x _) (Or.inr HM.out) hi).mono ?_
  rintro e w1 ⟨rfl, hb⟩
  go_wp2_with fail
  go_ret
  exact ⟨rfl, ((Below.refl w.heap.size w).alloc (Nat.le_refl _) _).trans (hb.mono (by simp))⟩
end Go.Proofs.YtoikcgmdlccdbaaDoor
