/- Contracts of the reference's digits (geofenceref03): trim, make16, digit, compareDigits. A magnitude p >= 0 is held as its digits in base 65536. -/
import Derived.Test.YtoikcgmdlccdbaaDoorMem
import Derived.Test.YtoikcgmdlccdbaaDoorDigMath
import Derived.Test.YtoikcgmdlccdbaaDoorProg
import Derived.WalkSpells
import Derived.Deep.QuietTactic
import Derived.BigQuiet
import Derived.Lib.Hide
import Derived.Deep.AppendLies
namespace Go.Proofs.YtoikcgmdlccdbaaDoor
set_option linter.unusedVariables false
set_option linter.unusedSimpArgs false
open Go.RowKit

namespace Dd
/-- n digits hold p -/
def Fits (n : Nat) (p : Int) : Prop := 0 ≤ p ∧ p < S n
/-- n digits hold p, without leading zeros -/
def Dg (n : Nat) (p : Int) : Prop := Fits n p ∧ (0 < n → S (n - 1) ≤ p)
theorem top_zero {n : Nat} {p : Int} (h : Fits (n + 1) p) : lmb p n = 0 ↔ p < S n := by
  have h1 := S_pos n
  unfold Fits at h
  rw [S_succ] at h
  have e : 0 ≤ qt p n ∧ qt p n < 65536 := ⟨Int.ediv_nonneg h.1 (Int.le_of_lt h1), Int.ediv_lt_of_lt_mul h1 (by omega)⟩
  unfold lmb
  have e2 : qt p n % 65536 = qt p n := by omega
  rw [e2]
  unfold qt
  constructor
  · intro h0
    have := Int.lt_ediv_add_one_mul_self p h1
    rw [h0] at this; omega
  · intro h0; exact Int.ediv_eq_zero_of_lt h.1 h0
theorem lmb_beyond {n : Nat} {p : Int} (h : Fits n p) {i : Nat} (hi : n ≤ i) : lmb p i = 0 := by
  have := S_le hi
  unfold Fits at h
  unfold lmb qt
  rw [Int.ediv_eq_zero_of_lt h.1 (by omega)]; rfl
theorem fits_zero {p : Int} (h : Fits 0 p) : p = 0 := by unfold Fits at h; rw [S_zero] at h; omega
theorem fits_mono {n m : Nat} {p : Int} (h : Fits n p) (hm : n ≤ m) : Fits m p := by have := S_le hm; unfold Fits at *; omega
theorem dg_zero {n : Nat} (h : Dg n 0) : n = 0 := by
  rcases Nat.eq_zero_or_pos n with h0 | h0
  · exact h0
  · have h1 := h.2 h0; have h2 := S_pos (n - 1); omega
theorem dg_pos {n : Nat} {p : Int} (h : Dg n p) (hp : p ≠ 0) : 0 < n := by
  rcases Nat.eq_zero_or_pos n with h0 | h0
  · subst h0; exact absurd (fits_zero h.1) hp
  · exact h0
theorem lmb_range (p : Int) (i : Nat) : 0 ≤ lmb p i ∧ lmb p i ≤ 65535 := by unfold lmb; omega
end Dd
theorem retI {k : IntKind} {a b : Int} (h : a = b) : Ending.returned (.int k a) = Ending.returned (.int k b) := by rw [h]
/-- the length of a slice value -/
def lenS : Value → Nat | .slice _ n _ => n | _ => 0

theorem ref3_trim (A : Option Addr) (n c : Nat) (p : Int) (w : World) (ha : Sl w .i64 A n c (Dd.lmb p)) (hp : Dd.Fits n p) :
    Calls Tryd.prog 116 #[.slice A n c] w fun e w' => (∃ k, e = .returned (.slice A k c) ∧ k ≤ n ∧ Dd.Dg k p) ∧ w = w' := by
  have hmax := ha.max; have hcap := ha.cap
  unfold maxLen at hmax
  have HA := Lib.hid ha; have HP := Lib.hid hp; clear ha hp
  go_enter Tryd.func116, Tryd.ntmps116
  go_wp2_with fail
  go_loop [0] (fun v => ∃ k : Nat, k ≤ n ∧ v = .slice A k c ∧ Dd.Fits k p) (fun v => lenS v)
  case atStart => exact ⟨n, Nat.le_refl _, rfl, HP.out⟩
  case round =>
    obtain ⟨k, hk, rfl, hf⟩ := hrel
    rcases Nat.eq_zero_or_pos k with h0 | h0
    · subst h0
      have HF := Lib.hid hf; clear hf
      go_wp2_with fail
      go_ret
      exact ⟨⟨0, rfl, Nat.zero_le _, HF.out, fun h => absurd h (by omega)⟩, rfl⟩
    · obtain ⟨b, off, rfl, hlt, hc⟩ := HA.out.at_ (by omega)
      have c1 : w.cell? ⟨b, off + (k - 1), none⟩ = some (.int .i64 (Dd.lmb p (k - 1))) := hc (k - 1) (by omega)
      obtain ⟨j, rfl⟩ : ∃ j, k = j + 1 := ⟨k - 1, by omega⟩
      rw [Nat.add_sub_cancel] at c1
      have htz := Dd.top_zero hf
      by_cases hz : Dd.lmb p j = 0
      · have hlow : Dd.Fits j p := ⟨hf.1, htz.1 hz⟩
        rw [hz] at c1
        have HL := Lib.hid hlow
        clear hz htz hf hlow hc
        go_wp2_with fail
        go_round
        case rel => exact ⟨j, by omega, rfl, HL.out⟩
        case measure => simp [lenS]
      · have hd : Dd.Dg (j + 1) p := ⟨hf, fun _ => by have := fun h => hz (htz.2 h); rw [Nat.add_sub_cancel]; omega⟩
        have hne : (Dd.lmb p j == 0) = false := by simpa using hz
        have HD := Lib.hid hd
        clear hz htz hf hd hc
        go_wp2_with fail
        go_ret
        exact ⟨⟨j + 1, rfl, hk, HD.out⟩, rfl⟩

/-- the address leads to a block of ints -/
def Ty (w : World) (A : Option Addr) : Prop := ∀ a, A = some a → ∃ cs, w.heap[a.block]? = some (.cells cs 3 (0, 0))
theorem Ty.none_ (w : World) : Ty w none := fun a h => by cases h
theorem Ty.below {w w' : World} {A : Option Addr} {B : Nat} (h : Ty w A) (hb : Below B w w') (hB : w.heap.size ≤ B) : Ty w' A := fun a ha => by
  obtain ⟨cs, hc⟩ := h a ha
  have hlt : a.block < w.heap.size := by
    rcases Nat.lt_or_ge a.block w.heap.size with h1 | h1
    · exact h1
    · rw [Array.getElem?_eq_none h1] at hc; cases hc
  exact ⟨cs, (hb.block a.block (by omega)).trans hc⟩
theorem Ty.of_own {w : World} {base n c : Nat} {A : Option Addr} {xs : List Value} (h : w.ownsRow base 3 1 (.slice A n c) n xs) : Ty w A := fun a ha => by
  subst ha
  rcases h.2 with ⟨h1, _⟩ | ⟨g, cap, cur, h1, _, hh, _⟩
  · cases h1
  · injection h1 with h2; injection h2 with h3; subst h3; exact ⟨cur, hh⟩
/-- the digits of a number: those of its absolute value, without leading zeros, in a block of ints -/
def Nm (w : World) (A : Option Addr) (n c : Nat) (x : Int) : Prop := Sl w .i64 A n c (Dd.lmb x.natAbs) ∧ Dd.Dg n x.natAbs ∧ Ty w A
theorem Nm.below {w w' : World} {A : Option Addr} {n c B : Nat} {x : Int} (h : Nm w A n c x) (hb : Below B w w') (hB : w.heap.size ≤ B) : Nm w' A n c x := ⟨h.1.below hb hB, h.2.1, h.2.2.below hb hB⟩
/-- a store into a block that is none of ints turns no number -/
theorem Nm.set_ {w : World} {A : Option Addr} {n c b o : Nat} {x : Int} {v : Value} {cs : Array Value} {t : TypeId} (h : Nm w A n c x) (hb : w.heap[b]? = some (.cells cs t (0, 0))) (ht : t ≠ 3) : Nm (w.setCell ⟨b, o, none⟩ v) A n c x := by
  have hne : ∀ a, A = some a → a.block ≠ b := fun a ha e => by
    obtain ⟨ds, hd⟩ := h.2.2 a ha
    rw [e, hb] at hd
    injection hd with hd
    injection hd with _ hd
    exact ht hd
  refine ⟨⟨h.1.cap, h.1.max, fun h0 => ?_⟩, h.2.1, fun a ha => ?_⟩
  · obtain ⟨b', off, e, hlt, hc⟩ := h.1.at_ h0
    refine ⟨b', off, e, by simpa [World.setCell] using hlt, fun i hi => ?_⟩
    rw [World.cell?_setCell_other _ _ _ _ (by intro q; injection q with q1; exact hne _ e q1.symm)]
    exact hc i hi
  · obtain ⟨ds, hd⟩ := h.2.2 a ha
    exact ⟨ds, (Below.heap_setCell w ⟨b, o, none⟩ v a.block (hne a ha)).trans hd⟩

theorem ref3_make16 (s : Int) (A : Option Addr) (n c : Nat) (p x : Int) (w : World) (ha : Sl w .i64 A n c (Dd.lmb p)) (hp : Dd.Fits n p) (hx : (x.natAbs : Int) = p) (hs : x ≠ 0 → s = sg x) (ht : Ty w A) :
    Calls Tryd.prog 99 #[.int .i64 s, .slice A n c] w fun e w' => (∃ A' k c', e = .returned (.agg #[.int .i64 (sg x), .slice A' k c']) ∧ k ≤ n ∧ Nm w' A' k c' x) ∧ Below w.heap.size w w' := by
  have hmax := ha.max; have hcap := ha.cap
  unfold maxLen at hmax
  have hb : Below w.heap.size w (w.alloc (.cells #[.int .i64 0, .slice none 0 0] 97)) := (Below.refl w.heap.size w).alloc (Nat.le_refl _) _
  have HB := Lib.hid hb
  have HA := Lib.hid ha; have HP := Lib.hid hp; have HT := Lib.hid ht
  clear ha hp hb ht
  by_cases h0 : x = 0
  · subst h0
    obtain rfl : p = 0 := by omega
    go_enter Tryd.func99, Tryd.ntmps99
    go_wp2_with fail
    refine (ref3_trim A n c 0 _ (HA.out.below HB.out (Nat.le_refl _)) HP.out).mono ?_
    rintro e w' ⟨⟨k, rfl, hk, hd⟩, rfl⟩
    obtain rfl := Dd.dg_zero hd
    go_wp2_with fail
    refine bodyPost_ret (v := .agg #[.int .i64 0, .slice none 0 0]) (by simp [results, Tryd.results99, go_sem]) rfl ⟨⟨none, 0, 0, rfl, Nat.zero_le _, Sl.none_, ?_, Ty.none_ _⟩, HB.out⟩
    exact hd
  · have hs' := hs h0
    go_enter Tryd.func99, Tryd.ntmps99
    go_wp2_with fail
    refine (ref3_trim A n c p _ (HA.out.below HB.out (Nat.le_refl _)) HP.out).mono ?_
    rintro e w' ⟨⟨k, rfl, hk, hd⟩, rfl⟩
    have hk0 := Dd.dg_pos hd (by omega)
    have hne : ((k : Int) == 0) = false := by simp; omega
    go_wp2_with fail
    refine bodyPost_ret (v := .agg #[.int .i64 (sg x), .slice A k c]) (by simp [results, Tryd.results99, go_sem]) rfl ⟨⟨A, k, c, rfl, hk, ?_, ?_, HT.out.below ((Below.refl w.heap.size w).alloc (Nat.le_refl _) _) (Nat.le_refl _)⟩, (Below.refl w.heap.size w).alloc (Nat.le_refl _) _⟩
    · rw [hx]; exact (HA.out.alloc _).take_cap hk
    · rw [hx]; exact hd

theorem ref3_digit (A : Option Addr) (n c : Nat) (p : Int) (i : Nat) (w : World) (ha : Sl w .i64 A n c (Dd.lmb p)) (hp : Dd.Fits n p) (hi : i ≤ 9223372036854775807) :
    Calls Tryd.prog 117 #[.slice A n c, .int .i64 i] w fun e w' => e = .returned (.int .i64 (Dd.lmb p i)) ∧ w = w' := by
  have hmax := ha.max; have hcap := ha.cap
  unfold maxLen at hmax
  by_cases h : i < n
  · obtain ⟨b, off, rfl, hlt, hc⟩ := ha.at_ (by omega)
    have c1 := hc i h
    clear ha hp hc
    go_enter Tryd.func117, Tryd.ntmps117
    go_wp2_with fail
    go_ret
    exact ⟨rfl, rfl⟩
  · have hz := Dd.lmb_beyond hp (i := i) (by omega)
    rw [hz]
    clear hz ha hp
    go_enter Tryd.func117, Tryd.ntmps117
    go_wp2_with fail
    go_ret
    exact ⟨rfl, rfl⟩

/-- magnitudes compared -/
def cmpI (p q : Int) : Int := (p - q).sign
theorem cmp_lt {p q : Int} (h : p < q) : cmpI p q = -1 := by unfold cmpI; exact Int.sign_eq_neg_one_of_neg (by omega)
theorem cmp_gt {p q : Int} (h : q < p) : cmpI p q = 1 := by unfold cmpI; exact Int.sign_eq_one_of_pos (by omega)
theorem dg_lt {n m : Nat} {p q : Int} (hp : Dd.Dg n p) (hq : Dd.Dg m q) (h : n < m) : p < q := by
  have h1 := hq.2 (by omega)
  have h2 := Dd.S_le (show n ≤ m - 1 by omega)
  have h3 := hp.1.2
  omega
theorem qt_lt {p q : Int} {k : Nat} (h : Dd.qt p k < Dd.qt q k) : p < q := by
  have h1 := Dd.S_pos k
  unfold Dd.qt at h
  rcases (by omega : p < q ∨ q ≤ p) with h2 | h2
  · exact h2
  · have := Int.ediv_le_ediv h1 h2; omega

set_option maxHeartbeats 400000 in
theorem ref3_compareDigits (A A' : Option Addr) (n c m c' : Nat) (p q : Int) (w : World) (ha : Sl w .i64 A n c (Dd.lmb p)) (hp : Dd.Dg n p) (hb : Sl w .i64 A' m c' (Dd.lmb q)) (hq : Dd.Dg m q) :
    Calls Tryd.prog 101 #[.slice A n c, .slice A' m c'] w fun e w' => e = .returned (.int .i64 (cmpI p q)) ∧ ∃ nq, w' = w.drewN nq := by
  have hmax := ha.max; have hcap := ha.cap; have hmax' := hb.max; have hcap' := hb.cap
  unfold maxLen at hmax hmax'
  rcases (by omega : n < m ∨ m < n ∨ n = m) with h | h | h
  · rw [cmp_lt (dg_lt hp hq h)]
    have hne : ((n : Int) != (m : Int)) = true := by simp; omega
    clear ha hp hb hq
    go_enter Tryd.func101, Tryd.ntmps101
    go_wp2_with fail
    go_ret
    exact ⟨rfl, 0, rfl⟩
  · rw [cmp_gt (dg_lt hq hp h)]
    have hne : ((n : Int) != (m : Int)) = true := by simp; omega
    clear ha hp hb hq
    go_enter Tryd.func101, Tryd.ntmps101
    go_wp2_with fail
    go_ret
    exact ⟨rfl, 0, rfl⟩
  · subst h
    have hne : ((n : Int) != (n : Int)) = false := by simp
    have HA := Lib.hid ha; have HP := Lib.hid hp; have HB := Lib.hid hb; have HQ := Lib.hid hq
    clear ha hp hb hq
    go_enter Tryd.func101, Tryd.ntmps101
    go_wp2_with fail
    go_loopw [5] (fun i wr => ∃ z : Int, i = .int .i64 z ∧ -1 ≤ z ∧ z < n ∧ Hid (Dd.qt p (z + 1).toNat = Dd.qt q (z + 1).toNat) ∧ ∃ nq, wr = w.drewN nq) (fun i _ => (intOf i + 1).toNat)
    case atStart =>
      refine ⟨(n : Int) - 1, rfl, by omega, by omega, ?_, 0, rfl⟩
      have e : ((n : Int) - 1 + 1).toNat = n := by omega
      show Dd.qt p _ = Dd.qt q _
      rw [e]
      unfold Dd.qt
      rw [Int.ediv_eq_zero_of_lt HP.out.1.1 HP.out.1.2, Int.ediv_eq_zero_of_lt HQ.out.1.1 HQ.out.1.2]
    case round =>
      obtain ⟨z, rfl, hz1, hz2, heq, nq, rfl⟩ := hrel
      rcases (by omega : z = -1 ∨ 0 ≤ z) with h0 | h0
      · subst h0
        have e : p = q := by have := heq.out; rwa [show ((-1 : Int) + 1).toNat = 0 from rfl, Dd.qt_zero, Dd.qt_zero] at this
        have E := Lib.hid e; clear e
        go_wp2_with fail
        go_ret
        exact ⟨by rw [E.out]; simp [cmpI], nq, rfl⟩
      · obtain ⟨j, rfl⟩ := Int.eq_ofNat_of_zero_le h0
        rw [show ((j : Int) + 1).toNat = j + 1 from by omega, Dd.qt_succ, Dd.qt_succ] at heq
        obtain ⟨b, off, rfl, hlt, hc⟩ := HA.out.at_ (by omega)
        obtain ⟨b', off', rfl, hlt', hc'⟩ := HB.out.at_ (by omega)
        have c1 := hc j (by omega)
        have c2 := hc' j (by omega)
        clear hc hc'
        rcases (by omega : Dd.qt p j < Dd.qt q j ∨ Dd.qt q j < Dd.qt p j ∨ Dd.qt p j = Dd.qt q j) with hh | hh | hh
        · have HE := Lib.hid (cmp_lt (qt_lt hh))
          have h3 : Dd.lmb p j < Dd.lmb q j := by have := heq.out; unfold Dd.lmb; omega
          have h4 : (Dd.lmb p j != Dd.lmb q j) = true := by simp; omega
          clear hh heq
          go_wp2_with fail
          go_quiet (fail)
          go_wp2_with fail
          go_quiet (fail)
          go_wp2_with fail
          go_ret
          exact ⟨retI HE.out.symm, _, by simp only [World.drewN_drewN]; rfl⟩
        · have HE := Lib.hid (cmp_gt (qt_lt hh))
          have h3 : ¬ Dd.lmb p j < Dd.lmb q j := by have := heq.out; unfold Dd.lmb; omega
          have h4 : (Dd.lmb p j != Dd.lmb q j) = true := by have := heq.out; simp; unfold Dd.lmb; omega
          clear hh heq
          go_wp2_with fail
          go_quiet (fail)
          go_wp2_with fail
          go_quiet (fail)
          go_wp2_with fail
          go_ret
          exact ⟨retI HE.out.symm, _, by simp only [World.drewN_drewN]; rfl⟩
        · have h4 : (Dd.lmb p j != Dd.lmb q j) = false := by unfold Dd.lmb; rw [hh]; simp
          have HH := Lib.hid hh
          clear hh heq
          go_wp2_with fail
          go_quiet (fail)
          go_wp2_with fail
          go_roundw
          case rel => exact ⟨(j : Int) - 1, by go_num, by omega, by omega, by rw [show ((j : Int) - 1 + 1).toNat = j from by omega]; exact HH.out, _, by first | rfl | (simp only [World.drewN_drewN]; rfl)⟩
          case measure => simp [intOf]
end Go.Proofs.YtoikcgmdlccdbaaDoor
