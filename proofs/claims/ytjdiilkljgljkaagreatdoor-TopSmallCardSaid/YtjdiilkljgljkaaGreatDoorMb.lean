/- Contracts of the reference's digits (geofenceref03): trim, make16, digit, compareDigits. A magnitude p >= 0 is held as its digits in base 65536. A store into a box turns no number. A region that draws its order, of operations that yield values (loads, calls ..) and of variables: what each value obeys, whatever the order. Contract of the reference's point: sixteen bytes appended. append on a row of the call's own, as one step of a region that draws its order. No program's run. Contracts of the codec's writer. Contracts of the codec's writer: point, query, record. Contracts of the codec's reader: byte, word, point. Contracts of the codec's reader: point. Contracts of the header's functions at requests without regions (operations 1 and 2). Contracts of the word functions (math/bits, package word) and of their reference: what each call returns, for every word; none changes memory. Contracts of limb.is (whether slices have 1 to 8 elements), for one and for two slices. Contracts of package mask at words: zero, selection, the sign. The sign reads the package's table of two words. Contracts of the header's functions at requests without regions: the payload's length, the check of a request's length, the header's bytes, the numbers of points and queries. Contracts of the header's functions at requests without regions: the check of a request's length, the header's bytes, the numbers of points and queries. Rows of points and of queries: what they hold, index by index; bytes still to be read. Plain facts; no program's run. Contracts of the codec's each: at points; at no queries, at no records. -/
import Derived.Test.YtjdiilkljgljkaaGreatDoorMa
import Derived.Test.YtjdiilkljgljkaaGreatDoorProg
import Derived.WalkSpells
import Derived.Deep.QuietTactic
import Derived.BigQuiet
import Derived.Lib.Hide
import Derived.Deep.AppendLies
import Derived.Deep.RegionHeld3
import Derived.Deep.RegionLaw
import Derived.Laws.AppendOwn
import Derived.OwnWalk
import Derived.Shelf.Spec.BitsCarry
import Derived.RegionTactic
import Derived.Scope
import Derived.Laws.Externs
namespace Go.Proofs.YtjdiilkljgljkaaGreatDoor
set_option linter.unusedVariables false
set_option linter.unusedSimpArgs false
open Go.RowKit

namespace Dd
/-- n digits hold p -/
def Fits (n : Nat) (p : Int) : Prop := 0 ≤ p ∧ p < S n
/-- n digits hold p, without leading zeros -/
def Dg (n : Nat) (p : Int) : Prop := Fits n p ∧ (0 < n → S (n - 1) ≤ p)
theorem top_zero {n : Nat} {p : Int} (h : Fits (n + 1) p) : lmb p n = 0 ↔ p < S n := by
  have h1 := S_pos n
  unfold Fits at h
  rw [S_succ] at h
  have e : 0 ≤ qt p n ∧ qt p n < 65536 := ⟨Int.ediv_nonneg h.1 (Int.le_of_lt h1), Int.ediv_lt_of_lt_mul h1 (by omega)⟩
  unfold lmb
  have e2 : qt p n % 65536 = qt p n := by omega
  rw [e2]
  unfold qt
  constructor
  · intro h0
    have := Int.lt_ediv_add_one_mul_self p h1
    rw [h0] at this; omega
  · intro h0; exact Int.ediv_eq_zero_of_lt h.1 h0
theorem lmb_beyond {n : Nat} {p : Int} (h : Fits n p) {i : Nat} (hi : n ≤ i) : lmb p i = 0 := by
  have := S_le hi
  unfold Fits at h
  unfold lmb qt
  rw [Int.ediv_eq_zero_of_lt h.1 (by omega)]; rfl
theorem fits_zero {p : Int} (h : Fits 0 p) : p = 0 := by unfold Fits at h; rw [S_zero] at h; omega
theorem fits_mono {n m : Nat} {p : Int} (h : Fits n p) (hm : n ≤ m) : Fits m p := by have := S_le hm; unfold Fits at *; omega
theorem dg_zero {n : Nat} (h : Dg n 0) : n = 0 := by
  rcases Nat.eq_zero_or_pos n with h0 | h0
  · exact h0
  · have h1 := h.2 h0; have h2 := S_pos (n - 1); omega
theorem dg_pos {n : Nat} {p : Int} (h : Dg n p) (hp : p ≠ 0) : 0 < n := by
  rcases Nat.eq_zero_or_pos n with h0 | h0
  · subst h0; exact absurd (fits_zero h.1) hp
  · exact h0
theorem lmb_range (p : Int) (i : Nat) : 0 ≤ lmb p i ∧ lmb p i ≤ 65535 := by unfold lmb; omega
end Dd
theorem retI {k : IntKind} {a b : Int} (h : a = b) : Ending.returned (.int k a) = Ending.returned (.int k b) := by rw [h]
/-- the length of a slice value -/
def lenS : Value → Nat | .slice _ n _ => n | _ => 0

theorem ref3_trim (A : Option Addr) (n c : Nat) (p : Int) (w : World) (ha : Sl w .i64 A n c (Dd.lmb p)) (hp : Dd.Fits n p) :
    Calls Tryz.prog 93 #[.slice A n c] w fun e w' => (∃ k, e = .returned (.slice A k c) ∧ k ≤ n ∧ Dd.Dg k p) ∧ w = w' := by
  have hmax := ha.max; have hcap := ha.cap
  unfold maxLen at hmax
  have HA := Lib.hid ha; have HP := Lib.hid hp; clear ha hp
  go_enter Tryz.func93, Tryz.ntmps93
  go_wp2_with fail
  go_loop [0] (fun v => ∃ k : Nat, k ≤ n ∧ v = .slice A k c ∧ Dd.Fits k p) (fun v => lenS v)
  case atStart => exact ⟨n, Nat.le_refl _, rfl, HP.out⟩
  case round =>
    obtain ⟨k, hk, rfl, hf⟩ := hrel
    rcases Nat.eq_zero_or_pos k with h0 | h0
    · subst h0
      have HF := Lib.hid hf; clear hf
      go_wp2_with fail
      go_ret
      exact ⟨⟨0, rfl, Nat.zero_le _, HF.out, fun h => absurd h (by omega)⟩, rfl⟩
    · obtain ⟨b, off, rfl, hlt, hc⟩ := HA.out.at_ (by omega)
      have c1 : w.cell? ⟨b, off + (k - 1), none⟩ = some (.int .i64 (Dd.lmb p (k - 1))) := hc (k - 1) (by omega)
      obtain ⟨j, rfl⟩ : ∃ j, k = j + 1 := ⟨k - 1, by omega⟩
      rw [Nat.add_sub_cancel] at c1
      have htz := Dd.top_zero hf
      by_cases hz : Dd.lmb p j = 0
      · have hlow : Dd.Fits j p := ⟨hf.1, htz.1 hz⟩
        rw [hz] at c1
        have HL := Lib.hid hlow
        clear hz htz hf hlow hc
        go_wp2_with fail
        go_round
        case rel => exact ⟨j, by omega, rfl, HL.out⟩
        case measure => simp [lenS]
      · have hd : Dd.Dg (j + 1) p := ⟨hf, fun _ => by have := fun h => hz (htz.2 h); rw [Nat.add_sub_cancel]; omega⟩
        have hne : (Dd.lmb p j == 0) = false := by simpa using hz
        have HD := Lib.hid hd
        clear hz htz hf hd hc
        go_wp2_with fail
        go_ret
        exact ⟨⟨j + 1, rfl, hk, HD.out⟩, rfl⟩

/-- the address leads to a block of ints -/
def Ty (w : World) (A : Option Addr) : Prop := ∀ a, A = some a → ∃ cs, w.heap[a.block]? = some (.cells cs 3 (0, 0))
theorem Ty.none_ (w : World) : Ty w none := fun a h => by cases h
theorem Ty.below {w w' : World} {A : Option Addr} {B : Nat} (h : Ty w A) (hb : Below B w w') (hB : w.heap.size ≤ B) : Ty w' A := fun a ha => by
  obtain ⟨cs, hc⟩ := h a ha
  have hlt : a.block < w.heap.size := by
    rcases Nat.lt_or_ge a.block w.heap.size with h1 | h1
    · exact h1
    · rw [Array.getElem?_eq_none h1] at hc; cases hc
  exact ⟨cs, (hb.block a.block (by omega)).trans hc⟩
theorem Ty.of_own {w : World} {base n c : Nat} {A : Option Addr} {xs : List Value} (h : w.ownsRow base 3 1 (.slice A n c) n xs) : Ty w A := fun a ha => by
  subst ha
  rcases h.2 with ⟨h1, _⟩ | ⟨g, cap, cur, h1, _, hh, _⟩
  · cases h1
  · injection h1 with h2; injection h2 with h3; subst h3; exact ⟨cur, hh⟩
/-- the digits of a number: those of its absolute value, without leading zeros, in a block of ints -/
def Nm (w : World) (A : Option Addr) (n c : Nat) (x : Int) : Prop := Sl w .i64 A n c (Dd.lmb x.natAbs) ∧ Dd.Dg n x.natAbs ∧ Ty w A
theorem Nm.below {w w' : World} {A : Option Addr} {n c B : Nat} {x : Int} (h : Nm w A n c x) (hb : Below B w w') (hB : w.heap.size ≤ B) : Nm w' A n c x := ⟨h.1.below hb hB, h.2.1, h.2.2.below hb hB⟩
/-- a store into a block that is none of ints turns no number -/
theorem Nm.set_ {w : World} {A : Option Addr} {n c b o : Nat} {x : Int} {v : Value} {cs : Array Value} {t : TypeId} (h : Nm w A n c x) (hb : w.heap[b]? = some (.cells cs t (0, 0))) (ht : t ≠ 3) : Nm (w.setCell ⟨b, o, none⟩ v) A n c x := by
  have hne : ∀ a, A = some a → a.block ≠ b := fun a ha e => by
    obtain ⟨ds, hd⟩ := h.2.2 a ha
    rw [e, hb] at hd
    injection hd with hd
    injection hd with _ hd
    exact ht hd
  refine ⟨⟨h.1.cap, h.1.max, fun h0 => ?_⟩, h.2.1, fun a ha => ?_⟩
  · obtain ⟨b', off, e, hlt, hc⟩ := h.1.at_ h0
    refine ⟨b', off, e, by simpa [World.setCell] using hlt, fun i hi => ?_⟩
    rw [World.cell?_setCell_other _ _ _ _ (by intro q; injection q with q1; exact hne _ e q1.symm)]
    exact hc i hi
  · obtain ⟨ds, hd⟩ := h.2.2 a ha
    exact ⟨ds, (Below.heap_setCell w ⟨b, o, none⟩ v a.block (hne a ha)).trans hd⟩

theorem ref3_make16 (s : Int) (A : Option Addr) (n c : Nat) (p x : Int) (w : World) (ha : Sl w .i64 A n c (Dd.lmb p)) (hp : Dd.Fits n p) (hx : (x.natAbs : Int) = p) (hs : x ≠ 0 → s = sg x) (ht : Ty w A) :
    Calls Tryz.prog 58 #[.int .i64 s, .slice A n c] w fun e w' => (∃ A' k c', e = .returned (.agg #[.int .i64 (sg x), .slice A' k c']) ∧ k ≤ n ∧ Nm w' A' k c' x) ∧ Below w.heap.size w w' := by
  have hmax := ha.max; have hcap := ha.cap
  unfold maxLen at hmax
  have hb : Below w.heap.size w (w.alloc (.cells #[.int .i64 0, .slice none 0 0] 41)) := (Below.refl w.heap.size w).alloc (Nat.le_refl _) _
  have HB := Lib.hid hb
  have HA := Lib.hid ha; have HP := Lib.hid hp; have HT := Lib.hid ht
  clear ha hp hb ht
  by_cases h0 : x = 0
  · subst h0
    obtain rfl : p = 0 := by omega
    go_enter Tryz.func58, Tryz.ntmps58
    go_wp2_with fail
    refine (ref3_trim A n c 0 _ (HA.out.below HB.out (Nat.le_refl _)) HP.out).mono ?_
    rintro e w' ⟨⟨k, rfl, hk, hd⟩, rfl⟩
    obtain rfl := Dd.dg_zero hd
    go_wp2_with fail
    refine bodyPost_ret (v := .agg #[.int .i64 0, .slice none 0 0]) (by simp [results, Tryz.results58, go_sem]) rfl ⟨⟨none, 0, 0, rfl, Nat.zero_le _, Sl.none_, ?_, Ty.none_ _⟩, HB.out⟩
    exact hd
  · have hs' := hs h0
    go_enter Tryz.func58, Tryz.ntmps58
    go_wp2_with fail
    refine (ref3_trim A n c p _ (HA.out.below HB.out (Nat.le_refl _)) HP.out).mono ?_
    rintro e w' ⟨⟨k, rfl, hk, hd⟩, rfl⟩
    have hk0 := Dd.dg_pos hd (by omega)
    have hne : ((k : Int) == 0) = false := by simp; omega
    go_wp2_with fail
    refine bodyPost_ret (v := .agg #[.int .i64 (sg x), .slice A k c]) (by simp [results, Tryz.results58, go_sem]) rfl ⟨⟨A, k, c, rfl, hk, ?_, ?_, HT.out.below ((Below.refl w.heap.size w).alloc (Nat.le_refl _) _) (Nat.le_refl _)⟩, (Below.refl w.heap.size w).alloc (Nat.le_refl _) _⟩
    · rw [hx]; exact (HA.out.alloc _).take_cap hk
    · rw [hx]; exact hd

theorem ref3_digit (A : Option Addr) (n c : Nat) (p : Int) (i : Nat) (w : World) (ha : Sl w .i64 A n c (Dd.lmb p)) (hp : Dd.Fits n p) (hi : i ≤ 9223372036854775807) :
    Calls Tryz.prog 94 #[.slice A n c, .int .i64 i] w fun e w' => e = .returned (.int .i64 (Dd.lmb p i)) ∧ w = w' := by
  have hmax := ha.max; have hcap := ha.cap
  unfold maxLen at hmax
  by_cases h : i < n
  · obtain ⟨b, off, rfl, hlt, hc⟩ := ha.at_ (by omega)
    have c1 := hc i h
    clear ha hp hc
    go_enter Tryz.func94, Tryz.ntmps94
    go_wp2_with fail
    go_ret
    exact ⟨rfl, rfl⟩
  · have hz := Dd.lmb_beyond hp (i := i) (by omega)
    rw [hz]
    clear hz ha hp
    go_enter Tryz.func94, Tryz.ntmps94
    go_wp2_with fail
    go_ret
    exact ⟨rfl, rfl⟩

/-- magnitudes compared -/
def cmpI (p q : Int) : Int := (p - q).sign
theorem cmp_lt {p q : Int} (h : p < q) : cmpI p q = -1 := by unfold cmpI; exact Int.sign_eq_neg_one_of_neg (by omega)
theorem cmp_gt {p q : Int} (h : q < p) : cmpI p q = 1 := by unfold cmpI; exact Int.sign_eq_one_of_pos (by omega)
theorem dg_lt {n m : Nat} {p q : Int} (hp : Dd.Dg n p) (hq : Dd.Dg m q) (h : n < m) : p < q := by
  have h1 := hq.2 (by omega)
  have h2 := Dd.S_le (show n ≤ m - 1 by omega)
  have h3 := hp.1.2
  omega
theorem qt_lt {p q : Int} {k : Nat} (h : Dd.qt p k < Dd.qt q k) : p < q := by
  have h1 := Dd.S_pos k
  unfold Dd.qt at h
  rcases (by omega : p < q ∨ q ≤ p) with h2 | h2
  · exact h2
  · have := Int.ediv_le_ediv h1 h2; omega

set_option maxHeartbeats 400000 in
theorem ref3_compareDigits (A A' : Option Addr) (n c m c' : Nat) (p q : Int) (w : World) (ha : Sl w .i64 A n c (Dd.lmb p)) (hp : Dd.Dg n p) (hb : Sl w .i64 A' m c' (Dd.lmb q)) (hq : Dd.Dg m q) :
    Calls Tryz.prog 61 #[.slice A n c, .slice A' m c'] w fun e w' => e = .returned (.int .i64 (cmpI p q)) ∧ ∃ nq, w' = w.drewN nq := by
  have hmax := ha.max; have hcap := ha.cap; have hmax' := hb.max; have hcap' := hb.cap
  unfold maxLen at hmax hmax'
  rcases (by omega : n < m ∨ m < n ∨ n = m) with h | h | h
  · rw [cmp_lt (dg_lt hp hq h)]
    have hne : ((n : Int) != (m : Int)) = true := by simp; omega
    clear ha hp hb hq
    go_enter Tryz.func61, Tryz.ntmps61
    go_wp2_with fail
    go_ret
    exact ⟨rfl, 0, rfl⟩
  · rw [cmp_gt (dg_lt hq hp h)]
    have hne : ((n : Int) != (m : Int)) = true := by simp; omega
    clear ha hp hb hq
    go_enter Tryz.func61, Tryz.ntmps61
    go_wp2_with fail
    go_ret
    exact ⟨rfl, 0, rfl⟩
  · subst h
    have hne : ((n : Int) != (n : Int)) = false := by simp
    have HA := Lib.hid ha; have HP := Lib.hid hp; have HB := Lib.hid hb; have HQ := Lib.hid hq
    clear ha hp hb hq
    go_enter Tryz.func61, Tryz.ntmps61
    go_wp2_with fail
    go_loopw [5] (fun i wr => ∃ z : Int, i = .int .i64 z ∧ -1 ≤ z ∧ z < n ∧ Hid (Dd.qt p (z + 1).toNat = Dd.qt q (z + 1).toNat) ∧ ∃ nq, wr = w.drewN nq) (fun i _ => (intOf i + 1).toNat)
    case atStart =>
      refine ⟨(n : Int) - 1, rfl, by omega, by omega, ?_, 0, rfl⟩
      have e : ((n : Int) - 1 + 1).toNat = n := by omega
      show Dd.qt p _ = Dd.qt q _
      rw [e]
      unfold Dd.qt
      rw [Int.ediv_eq_zero_of_lt HP.out.1.1 HP.out.1.2, Int.ediv_eq_zero_of_lt HQ.out.1.1 HQ.out.1.2]
    case round =>
      obtain ⟨z, rfl, hz1, hz2, heq, nq, rfl⟩ := hrel
      rcases (by omega : z = -1 ∨ 0 ≤ z) with h0 | h0
      · subst h0
        have e : p = q := by have := heq.out; rwa [show ((-1 : Int) + 1).toNat = 0 from rfl, Dd.qt_zero, Dd.qt_zero] at this
        have E := Lib.hid e; clear e
        go_wp2_with fail
        go_ret
        exact ⟨by rw [E.out]; simp [cmpI], nq, rfl⟩
      · obtain ⟨j, rfl⟩ := Int.eq_ofNat_of_zero_le h0
        rw [show ((j : Int) + 1).toNat = j + 1 from by omega, Dd.qt_succ, Dd.qt_succ] at heq
        obtain ⟨b, off, rfl, hlt, hc⟩ := HA.out.at_ (by omega)
        obtain ⟨b', off', rfl, hlt', hc'⟩ := HB.out.at_ (by omega)
        have c1 := hc j (by omega)
        have c2 := hc' j (by omega)
        clear hc hc'
        rcases (by omega : Dd.qt p j < Dd.qt q j ∨ Dd.qt q j < Dd.qt p j ∨ Dd.qt p j = Dd.qt q j) with hh | hh | hh
        · have HE := Lib.hid (cmp_lt (qt_lt hh))
          have h3 : Dd.lmb p j < Dd.lmb q j := by have := heq.out; unfold Dd.lmb; omega
          have h4 : (Dd.lmb p j != Dd.lmb q j) = true := by simp; omega
          clear hh heq
          go_wp2_with fail
          go_quiet (fail)
          go_wp2_with fail
          go_quiet (fail)
          go_wp2_with fail
          go_ret
          exact ⟨retI HE.out.symm, _, by simp only [World.drewN_drewN]; rfl⟩
        · have HE := Lib.hid (cmp_gt (qt_lt hh))
          have h3 : ¬ Dd.lmb p j < Dd.lmb q j := by have := heq.out; unfold Dd.lmb; omega
          have h4 : (Dd.lmb p j != Dd.lmb q j) = true := by have := heq.out; simp; unfold Dd.lmb; omega
          clear hh heq
          go_wp2_with fail
          go_quiet (fail)
          go_wp2_with fail
          go_quiet (fail)
          go_wp2_with fail
          go_ret
          exact ⟨retI HE.out.symm, _, by simp only [World.drewN_drewN]; rfl⟩
        · have h4 : (Dd.lmb p j != Dd.lmb q j) = false := by unfold Dd.lmb; rw [hh]; simp
          have HH := Lib.hid hh
          clear hh heq
          go_wp2_with fail
          go_quiet (fail)
          go_wp2_with fail
          go_roundw
          case rel => exact ⟨(j : Int) - 1, by go_num, by omega, by omega, by rw [show ((j : Int) - 1 + 1).toNat = j from by omega]; exact HH.out, _, by first | rfl | (simp only [World.drewN_drewN]; rfl)⟩
          case measure => simp [intOf]
end Go.Proofs.YtjdiilkljgljkaaGreatDoor
namespace Go.Proofs.YtjdiilkljgljkaaGreatDoor
open Go.RowKit
theorem Nm.setB {w : World} {A : Option Addr} {n c b o : Nat} {x : Int} {v : Value} {cs : Array Value} {t : TypeId} (h : Nm w A n c x) (hb : Bx w b cs t) (ht : t ≠ 3) : Nm (w.setCell ⟨b, o, none⟩ v) A n c x := h.set_ hb ht
theorem Nm.alloc {w : World} {A : Option Addr} {n c : Nat} {x : Int} (h : Nm w A n c x) (o : Obj) : Nm (w.alloc o) A n c x := h.below ((Below.refl w.heap.size w).alloc (Nat.le_refl _) o) (Nat.le_refl _)
theorem nm_dr {w : World} {A : Option Addr} {n c : Nat} {x : Int} (h : Nm w A n c x) : Nm w.drew A n c x := h.below (below_drew0 w) (Nat.le_refl _)
theorem fwd_nm {w w' : World} {A : Option Addr} {n c : Nat} {x : Int} (h : Nm w A n c x) (hb : Below w.heap.size w w') : Nm w' A n c x := h.below hb (Nat.le_refl _)
theorem nm_al {w : World} {A : Option Addr} {n c : Nat} {x : Int} {o : Obj} (h : Nm w A n c x) : Nm (w.alloc o) A n c x := h.alloc o
theorem nm_tr {w w' : World} {A : Option Addr} {n c : Nat} {x : Int} (h : Nm w A n c x) (hb : Below w.heap.size w w') : Nm w' A n c x := h.below hb (Nat.le_refl _)
theorem nm_set2 {w : World} {A : Option Addr} {n c b : Nat} {x : Int} {z0 z1 v0 v1 : Value} {t : TypeId} (ht : t ≠ 3) (hb : Bx w b #[z0, z1] t) (h : Nm w A n c x) : Nm ((w.setCell ⟨b, 0, none⟩ v0).setCell ⟨b, 1, none⟩ v1) A n c x :=
  (h.setB hb ht).setB (hb.set 0 v0) ht
theorem nm_set4 {w : World} {A : Option Addr} {n c b : Nat} {x : Int} {z0 z1 z2 z3 v0 v1 v2 v3 : Value} {t : TypeId} (ht : t ≠ 3) (hb : Bx w b #[z0, z1, z2, z3] t) (h : Nm w A n c x) : Nm ((((w.setCell ⟨b, 0, none⟩ v0).setCell ⟨b, 1, none⟩ v1).setCell ⟨b, 2, none⟩ v2).setCell ⟨b, 3, none⟩ v3) A n c x :=
  (((h.setB hb ht).setB (hb.set 0 v0) ht).setB ((hb.set 0 v0).set 1 v1) ht).setB (((hb.set 0 v0).set 1 v1).set 2 v2) ht
end Go.Proofs.YtjdiilkljgljkaaGreatDoor
namespace Go.Proofs.YtjdiilkljgljkaaGreatDoor
set_option linter.unusedVariables false
set_option linter.unusedSimpArgs false
open Go.RowKit Wd

/-- an operation that yields a value: its number, its slot, what holds of the value -/
structure ValD where
  op : Nat
  slot : Nat
  P : Value → World → Prop

/-- no cell holds a word -/
def NoU (cs : Array Value) : Prop := ∀ u ∈ cs.toList, ∀ x, u ≠ .int .u64 x
/-- what stays behind new blocks and stores into variables -/
structure Stay (p : World → Prop) : Prop where
  below : ∀ w w', Below w.heap.size w w' → p w → p w'
  store : ∀ (w : World) (B : Nat) (cs : Array Value) (ty : TypeId), NoU cs → ty ≠ 3 → Bx w B cs ty → ∀ (k : Nat) (v : Value), p w → p (w.setCell ⟨B, k, none⟩ v)
theorem Stay.const (p : Prop) : Stay (fun _ => p) := ⟨fun _ _ _ h => h, fun _ _ _ _ _ _ _ _ _ h => h⟩
theorem Stay.and {p q : World → Prop} (h : Stay p) (g : Stay q) : Stay (fun w => p w ∧ q w) := ⟨fun w w' b x => ⟨h.below w w' b x.1, g.below w w' b x.2⟩, fun w B cs ty a b c k v x => ⟨h.store w B cs ty a b c k v x.1, g.store w B cs ty a b c k v x.2⟩⟩
theorem Stay.ex {α : Sort _} {p : α → World → Prop} (h : ∀ a, Stay (p a)) : Stay (fun w => ∃ a, p a w) := ⟨fun w w' b ⟨a, x⟩ => ⟨a, (h a).below w w' b x⟩, fun w B cs ty e b c k v ⟨a, x⟩ => ⟨a, (h a).store w B cs ty e b c k v x⟩⟩
theorem Stay.sl (A : Option Addr) (n c : Nat) (f : Nat → Int) : Stay (fun w => Sl w .u64 A n c f) := ⟨fun w w' b h => h.below b (Nat.le_refl _), fun w B cs ty a b c k v h => h.set c a⟩
theorem getD_of {xs : Array Value} {t : Nat} {v : Value} (h : xs[t]? = some v) : xs.getD t undef = v := by rw [Array.getD_eq_getD_getElem?, h]; rfl
theorem Stay.nm (A : Option Addr) (n c : Nat) (x : Int) : Stay (fun w => Nm w A n c x) := ⟨fun w w' b h => h.below b (Nat.le_refl _), fun w B cs ty a b c k v h => h.setB c b⟩

theorem nodup_inj {α β : Type _} {f : α → β} {l : List α} (h : (l.map f).Nodup) {u v : α} (hu : u ∈ l) (hv : v ∈ l) (e : f u = f v) : u = v := by
  induction l with
  | nil => cases hu
  | cons x xs ih =>
    simp only [List.map_cons, List.nodup_cons, List.mem_map, not_exists, not_and] at h
    rcases List.mem_cons.1 hu with rfl | hu'
    · rcases List.mem_cons.1 hv with rfl | hv'
      · rfl
      · exact absurd e.symm (h.1 v hv')
    · rcases List.mem_cons.1 hv with rfl | hv'
      · exact absurd e (h.1 u hu')
      · exact ih h.2 hu' hv'

def allP {α : Type _} (p : α → Prop) : List α → Prop
  | [] => True
  | b :: bs => p b ∧ allP p bs
theorem allP.mem {α : Type _} {p : α → Prop} : ∀ {bs : List α}, allP p bs → ∀ b ∈ bs, p b
  | b :: bs, h, c, hc => by
    rcases List.mem_cons.1 hc with rfl | hc
    · exact h.1
    · exact allP.mem h.2 c hc
theorem allP.of {α : Type _} {p : α → Prop} : ∀ {bs : List α}, (∀ b ∈ bs, p b) → allP p bs
  | [], _ => trivial
  | b :: bs, h => ⟨h b (by simp), allP.of (fun c hc => h c (List.mem_cons_of_mem _ hc))⟩

def depB (ops : Array Oper) (i j : Nat) : Bool := ((ops[i]?).map fun o => o.after.any fun e => Region.binds .any e && (e.on == j)).getD false
/-- the values' and the variables' numbers and slots are apart; each operation is one of them -/
def valsB (ops : Array Oper) (bs : List BoxD) (vs : List (Nat × Nat)) (n : Nat) : Bool :=
  decide ((bs.map (·.slot) ++ vs.map (·.2)).Nodup) && decide ((vs.map (·.1)).Nodup) && vs.all (fun v => decide (v.1 < ops.size) && decide (v.2 < n) && bs.all fun b => b.al != v.1 && b.st != v.1) && bs.all (fun b => decide (b.slot < n)) &&
  (List.range ops.size).all fun i => (bs.any fun b => b.al == i || b.st == i) || vs.any fun v => v.1 == i

theorem stay_setAll {p : World → Prop} (hp : Stay p) {B : Nat} {ty : TypeId} (hty : ty ≠ 3) : ∀ (l : List Value) (k : Nat) (w : World) (cs : Array Value), NoU cs → (∀ u ∈ l, ∀ x, u ≠ .int .u64 x) → Bx w B cs ty → p w → p (setAll w B k l)
  | [], _, _, _, _, _, _, h => h
  | v :: l, k, w, cs, hc, hl, hb, h => by
    refine stay_setAll hp hty l (k + 1) _ (cs.setIfInBounds k v) ?_ (fun u hu => hl u (List.mem_cons_of_mem _ hu)) (hb.set k v) (hp.store w B cs ty hc hty hb k v h)
    intro u hu x
    rw [Array.toList_setIfInBounds] at hu
    rcases List.mem_or_eq_of_mem_set hu with h1 | h1
    · exact hc u h1 x
    · rw [h1]; exact hl v (by simp) x

abbrev BoxP := BoxD × (Array Value → World → Prop)
section
variable {P : Program} {ops : Array Oper} {Q : Exit → Act → World → Prop} {S : World → Prop}

theorem wpAnyH_gen {a0 : Act} {w0 : World} (bgs : List BoxP) (vs : List ValD) (hB : boxesB ops (bgs.map (·.1)) = true) (hV : valsB ops (bgs.map (·.1)) (vs.map fun v => (v.op, v.slot)) a0.tmps.size = true)
    (hS : ∀ w, S w)
    (hsb : allP (fun b => (∀ cs, Stay (b.2 cs)) ∧ b.1.ty ≠ 3 ∧ NoU b.1.z) bgs) (hsv : allP (fun v => ∀ x, Stay (v.P x)) vs)
    (hal : allP (fun b => ∀ a w K, K (a.put (some b.1.slot) (ptrTo w.heap.size)) (w.alloc (.cells b.1.z b.1.ty)) → wpOp P ops Q b.1.al K a w) bgs)
    (hst : allP (fun b => ∀ (a : Act) (w : World) (B : Nat) K, (∀ t, ((bgs.map (·.1.slot)) ++ vs.map (·.slot)).contains t = false → a.tmps[t]? = a0.tmps[t]?) → (∀ (k : Nat) (u : ValD), vs[k]? = some u → depB ops b.1.st u.op = true → ∃ x, a.tmps[u.slot]? = some x ∧ u.P x w) →
      a.tmps[b.1.slot]? = some (ptrTo B) → Bx w B b.1.z b.1.ty → (∀ l : List Value, b.1.z.size = l.length → NoU l.toArray → b.2 l.toArray w → K a (setAll w B 0 l)) → wpOp P ops Q b.1.st K a w) bgs)
    (hval : allP (fun v => ∀ (a : Act) (w : World) K, Below w0.heap.size w0 w → (∀ t, ((bgs.map (·.1.slot)) ++ vs.map (·.slot)).contains t = false → a.tmps[t]? = a0.tmps[t]?) → (∀ (k : Nat) (u : ValD), vs[k]? = some u → depB ops v.op u.op = true → ∃ x, a.tmps[u.slot]? = some x ∧ u.P x w) →
      (∀ x w', Below w.heap.size w w' → v.P x w' → K (a.put (some v.slot) x) w') → wpOp P ops Q v.op K a w) vs)
    (hend : ∀ w (X : Nat → Value) (B : Nat → Nat), Below w0.heap.size w0 w → allP (fun v => v.P (X v.slot) w) vs → allP (fun b => w0.heap.size ≤ B b.1.slot ∧ ∃ cs, Bx w (B b.1.slot) cs b.1.ty ∧ b.2 cs w) bgs → (∀ b ∈ bgs.map (·.1), ∀ c ∈ bgs.map (·.1), b ≠ c → B b.slot ≠ B c.slot) →
      Q .normal (vs.foldl (fun a v => a.put (some v.slot) (X v.slot)) (bgs.foldl (fun a b => a.put (some b.1.slot) (ptrTo (B b.1.slot))) a0)) w) :
    wpAnyH P .any ops Q S ops.size (Array.replicate ops.size false) a0 w0 := by
  simp only [valsB, Bool.and_eq_true, decide_eq_true_eq, List.all_eq_true, List.map_map] at hV
  obtain ⟨⟨⟨⟨n1, n2⟩, n3⟩, n4⟩, n5⟩ := hV
  have v3 : ∀ v ∈ vs, v.op < ops.size ∧ v.slot < a0.tmps.size ∧ ∀ b ∈ bgs, b.1.al ≠ v.op ∧ b.1.st ≠ v.op := fun v hv => by
    have := n3 (v.op, v.slot) (List.mem_map.2 ⟨v, hv, rfl⟩)
    refine ⟨this.1.1, this.1.2, fun b hb => ?_⟩
    have h2 := this.2 b.1 (List.mem_map.2 ⟨b, hb, rfl⟩)
    simp only [bne_iff_ne, ne_eq] at h2
    exact h2
  have b4 : ∀ b ∈ bgs, b.1.slot < a0.tmps.size := fun b hb => n4 b.1 (List.mem_map.2 ⟨b, hb, rfl⟩)
  have hdisj := (List.nodup_append.1 n1)
  have hapart : ∀ b ∈ bgs, ∀ v ∈ vs, b.1.slot ≠ v.slot := fun b hb v hv => hdisj.2.2 _ (List.mem_map.2 ⟨b, hb, rfl⟩) _ (List.mem_map.2 ⟨v, hv, rfl⟩)
  have hvinj : ∀ u ∈ vs, ∀ v ∈ vs, u.slot = v.slot → u = v := fun u hu v hv e => nodup_inj (f := ValD.slot) (by have h := hdisj.2.1; exact h) hu hv e
  have hoinj : ∀ u ∈ vs, ∀ v ∈ vs, u.op = v.op → u = v := fun u hu v hv e => nodup_inj (f := ValD.op) (by have h := n2; exact h) hu hv e
  have hmem : ∀ {b : BoxD}, b ∈ bgs.map (·.1) → ∃ g, (b, g) ∈ bgs := fun {b} hb => by
    obtain ⟨x, hx, rfl⟩ := List.mem_map.1 hb
    exact ⟨x.2, hx⟩
  have hdep : ∀ {i j : Nat} {o : Oper} {listed : Array Bool}, ops[i]? = some o → (∀ e ∈ o.after, Region.binds .any e = true → listed.getD e.on false = true) → depB ops i j = true → listed.getD j false = true := fun {i j o listed} ho hp hd => by
    unfold depB at hd
    rw [ho] at hd
    simp only [Option.map_some, Option.getD_some, Array.any_eq_true'] at hd
    obtain ⟨e, he, h5⟩ := hd
    simp only [Bool.and_eq_true, beq_iff_eq] at h5
    exact h5.2 ▸ hp e he h5.1
  refine wpAnyH_boxes (bgs.map (·.1)) hB (fun listed a w => Below w0.heap.size w0 w ∧ a.tmps.size = a0.tmps.size ∧ a.defers = a0.defers ∧ (∀ t, ((bgs.map (·.1.slot)) ++ vs.map (·.slot)).contains t = false → a.tmps[t]? = a0.tmps[t]?) ∧
      ∀ v ∈ vs, listed.getD v.op false = true → ∃ x, a.tmps[v.slot]? = some x ∧ v.P x w)
    (fun b cs w => ∀ g, (b, g) ∈ bgs → g cs w) w0.heap.size (Nat.le_refl _) (by simp) (by unfold unl; exact Nat.le_trans List.countP_le_length (by simp)) ?_ (fun b hb => by obtain ⟨g, hg⟩ := hmem hb; exact b4 _ hg) ?_ ⟨Below.refl _ _, rfl, rfl, fun _ _ => rfl, fun v hv h => ?_⟩ (fun _ _ w _ => hS w) ?_ ?_ ?_ ?_ ?_
  · intro b hb
    obtain ⟨h1, h2⟩ := (boxesB_spec hB).lt b hb
    constructor <;> simp [Array.getD]
  · intro b hb cs w w' h hbl g hg
    exact ((hsb.mem _ hg).1 cs).below w w' hbl (h g hg)
  · have := (v3 v hv).1
    simp [Array.getD] at h
  · intro b hb
    obtain ⟨g, hg⟩ := hmem hb
    exact hal.mem _ hg
  · rintro b hb listed a w ⟨j1, j2, j3, j4, j5⟩ hn hi
    obtain ⟨g, hg⟩ := hmem hb
    refine ⟨j1.alloc j1.size _, by simp [Act.put, j2], j3, fun t ht => ?_, fun v hv hl => ?_⟩
    · have hne : b.slot ≠ t := fun e => by
        have hc : ((bgs.map (·.1.slot)) ++ vs.map (·.slot)).contains t = true := by
          rw [List.contains_iff_mem, List.mem_append]; left; exact List.mem_map.2 ⟨_, hg, e⟩
        rw [hc] at ht; cases ht
      show (a.tmps.setIfInBounds b.slot _)[t]? = _
      rw [Array.getElem?_setIfInBounds_ne hne]; exact j4 t ht
    · have hne := ((v3 v hv).2.2 _ hg).1
      rw [getD_set_ne false hne] at hl
      obtain ⟨x, hx, hp⟩ := j5 v hv hl
      refine ⟨x, ?_, (hsv.mem v hv x).below _ _ ((Below.refl _ _).alloc (Nat.le_refl _) _) hp⟩
      show (a.tmps.setIfInBounds b.slot _)[v.slot]? = _
      rw [Array.getElem?_setIfInBounds_ne (hapart _ hg v hv)]; exact hx
  · rintro b hb listed a w B K o ho hi hp ⟨j1, j2, j3, j4, j5⟩ hs hn hbx hK
    obtain ⟨g, hg⟩ := hmem hb
    have hsg := hsb.mem _ hg
    refine hst.mem _ hg a w B K j4 (fun k u hu hd => j5 u (List.mem_of_getElem? hu) (hdep ho hp hd)) hs hbx (fun l hl hnl hgl => ?_)
    have hf := setAll_facts (B := B) (t := b.ty) l 0 w [] b.z.toList rfl (by simpa using hl) (by simpa using hbx)
    have hstay : ∀ {p : World → Prop}, Stay p → p w → p (setAll w B 0 l) := fun hp h => stay_setAll hp hsg.2.1 l 0 w b.z hsg.2.2 (by simpa [NoU] using hnl) hbx h
    refine hK _ l.toArray (by simpa using hf.1) hf.2.1 hf.2.2.1 (fun c hc cs' hgc g' hg' => ?_) (fun g' hg' => ?_) ⟨j1.trans (hf.2.2.2 _ hn), j2, j3, j4, fun v hv hl' => ?_⟩
    · exact hstay ((hsb.mem _ hg').1 cs') (hgc g' hg')
    · have : g' = g := congrArg (fun (x : BoxP) => x.2) (nodup_inj (f := fun (x : BoxP) => x.1.slot) hdisj.1 hg' hg rfl)
      subst this
      exact hstay ((hsg.1 _)) hgl
    · have hne := ((v3 v hv).2.2 _ hg).2
      rw [getD_set_ne false hne] at hl'
      obtain ⟨x, hx, hpx⟩ := j5 v hv hl'
      exact ⟨x, hx, hstay (hsv.mem v hv x) hpx⟩
  · rintro listed a w i o ho hno hi hp ⟨j1, j2, j3, j4, j5⟩
    have hil : i < ops.size := (Array.getElem?_eq_some_iff.1 ho).1
    have h5 := n5 i (List.mem_range.2 hil)
    simp only [Bool.or_eq_true, List.any_eq_true, beq_iff_eq] at h5
    rcases h5 with ⟨b, hb, h⟩ | ⟨q, hq, rfl⟩
    · rcases h with h | h
      · exact absurd h (hno b hb).1
      · exact absurd h (hno b hb).2
    · obtain ⟨v, hv, rfl⟩ := List.mem_map.1 hq
      refine hval.mem v hv a w _ j1 j4 (fun k u hu hd => j5 u (List.mem_of_getElem? hu) (hdep ho hp hd)) (fun x w' hbl hx => ⟨⟨j1.trans (hbl.mono j1.size), by simp [Act.put, j2], j3, fun t ht => ?_, fun u hu hl => ?_⟩, hbl, fun b hb => ?_, by simp [Act.put]⟩)
      · have hne : v.slot ≠ t := fun e => by
          have hc : ((bgs.map (·.1.slot)) ++ vs.map (·.slot)).contains t = true := by
            rw [List.contains_iff_mem, List.mem_append]; right; exact List.mem_map.2 ⟨_, hv, e⟩
          rw [hc] at ht; cases ht
        show (a.tmps.setIfInBounds v.slot _)[t]? = _
        rw [Array.getElem?_setIfInBounds_ne hne]; exact j4 t ht
      · by_cases e : u = v
        · subst e
          refine ⟨x, ?_, hx⟩
          show (a.tmps.setIfInBounds u.slot x)[u.slot]? = _
          simp [j2, (v3 u hu).2.1]
        · have hne : v.op ≠ u.op := fun e' => e (hoinj u hu v hv e'.symm)
          rw [getD_set_ne false hne] at hl
          obtain ⟨y, hy, hpy⟩ := j5 u hu hl
          refine ⟨y, ?_, (hsv.mem u hu y).below _ _ hbl hpy⟩
          show (a.tmps.setIfInBounds v.slot x)[u.slot]? = _
          rw [Array.getElem?_setIfInBounds_ne (fun e' => e (hvinj u hu v hv e'.symm))]; exact hy
      · obtain ⟨g, hg⟩ := hmem hb
        show (a.tmps.setIfInBounds v.slot x)[b.slot]? = _
        rw [Array.getElem?_setIfInBounds_ne (Ne.symm (hapart _ hg v hv))]
  · rintro listed a w B hall ⟨j1, j2, j3, j4, j5⟩ hsz hb hd
    have hval' : ∀ v ∈ vs, ∃ x, a.tmps[v.slot]? = some x ∧ v.P x w := fun v hv => j5 v hv (hall _ (v3 v hv).1)
    obtain ⟨X, hX⟩ : ∃ X : Nat → Value, ∀ t, X t = (a.tmps[t]?).getD undef := ⟨_, fun _ => rfl⟩
    have hf := fold_put (bs := bgs.map (·.1)) (B := B) (a0 := a0) (fun b hb => by obtain ⟨g, hg⟩ := hmem hb; exact b4 _ hg)
    rw [List.foldl_map] at hf
    have hfv : ∀ (l : List ValD) (a1 : Act), (∀ v ∈ l, v.slot < a1.tmps.size) → (l.foldl (fun a v => a.put (some v.slot) (X v.slot)) a1).defers = a1.defers ∧ (l.foldl (fun a v => a.put (some v.slot) (X v.slot)) a1).tmps.size = a1.tmps.size ∧
        ∀ t, (l.foldl (fun a v => a.put (some v.slot) (X v.slot)) a1).tmps[t]? = if t ∈ l.map (·.slot) then some (X t) else a1.tmps[t]? := fun l => by
      induction l with
      | nil => intro a1 _; exact ⟨rfl, rfl, fun t => by simp⟩
      | cons x xs ih =>
        intro a1 h
        have hx := h x (by simp)
        have hs : (a1.put (some x.slot) (X x.slot)).tmps.size = a1.tmps.size := by simp [Act.put]
        obtain ⟨h1, h2, h3⟩ := ih (a1.put (some x.slot) (X x.slot)) (fun b hb => by rw [hs]; exact h b (List.mem_cons_of_mem _ hb))
        simp only [List.foldl_cons]
        refine ⟨h1.trans rfl, h2.trans hs, fun t => ?_⟩
        rw [h3 t, act_put_get hx]
        simp only [List.map_cons, List.mem_cons]
        by_cases e : t ∈ xs.map (·.slot)
        · simp [e]
        · by_cases e2 : x.slot = t
          · subst e2; simp [e]
          · simp [e, e2, Ne.symm e2]
    obtain ⟨f1, f2, f3⟩ := hfv vs (bgs.foldl (fun a b => a.put (some b.1.slot) (ptrTo (B b.1.slot))) a0) (fun v hv => by rw [hf.2.1]; exact (v3 v hv).2.1)
    have ha : a = vs.foldl (fun a v => a.put (some v.slot) (X v.slot)) (bgs.foldl (fun a b => a.put (some b.1.slot) (ptrTo (B b.1.slot))) a0) := by
      have ht : a.tmps = (vs.foldl (fun a v => a.put (some v.slot) (X v.slot)) (bgs.foldl (fun a b => a.put (some b.1.slot) (ptrTo (B b.1.slot))) a0)).tmps := by
        apply Array.ext_getElem?
        intro t
        rw [f3 t, hf.2.2 t]
        by_cases e : t ∈ vs.map (·.slot)
        · rw [if_pos e]
          obtain ⟨v, hv, rfl⟩ := List.mem_map.1 e
          obtain ⟨x, hx, _⟩ := hval' v hv
          rw [hX, hx]; rfl
        · rw [if_neg e]
          by_cases e2 : t ∈ (bgs.map (·.1)).map (·.slot)
          · rw [if_pos e2]
            obtain ⟨b, hbm, rfl⟩ := List.mem_map.1 e2
            exact (hb b hbm).1
          · rw [if_neg e2]
            refine j4 t ?_
            cases hc : ((bgs.map (·.1.slot)) ++ vs.map (·.slot)).contains t with
            | false => rfl
            | true =>
              rw [List.contains_iff_mem, List.mem_append] at hc
              rcases hc with h | h
              · exact absurd (by simpa [List.map_map, Function.comp] using h) e2
              · exact absurd h e
      have hdf := j3.trans (f1.trans hf.1).symm
      revert ht hdf
      generalize vs.foldl (fun a v => a.put (some v.slot) (X v.slot)) (bgs.foldl (fun a b => a.put (some b.1.slot) (ptrTo (B b.1.slot))) a0) = a1
      cases a; cases a1
      intro ht hdf
      simp only at ht hdf
      subst ht hdf
      rfl
    rw [ha]
    refine hend w X B j1 (allP.of fun v hv => ?_) (allP.of fun b hbm => ?_) hd
    · obtain ⟨x, hx, hp⟩ := hval' v hv
      rw [hX, hx]; exact hp
    · obtain ⟨_, h2, cs, h3, h4⟩ := hb b.1 (List.mem_map.2 ⟨b, hbm, rfl⟩)
      exact ⟨h2, cs, h3, h4 b.2 hbm⟩
end
end Go.Proofs.YtjdiilkljgljkaaGreatDoor
namespace Go.Proofs.YtjdiilkljgljkaaGreatDoor
set_option linter.unusedVariables false
set_option linter.unusedSimpArgs false
open Go.RowKit Wd

set_option maxHeartbeats 4000000 in
set_option maxRecDepth 100000 in
theorem ref18_point (base : Nat) (v : Value) (l : List Int) (x y : Int) (hl : l.length ≤ 900000) (w : World) (hb : base ≤ w.heap.size) (ho : OwB w base v l) :
    Calls Tryz.prog 52 #[v, .agg #[.int .i64 x, .int .i64 y]] w fun e w' => (∃ v', e = .returned v' ∧ OwB w' base v' (l ++ ptB x y)) ∧ Fr base none w w' := by
  have HLL := Lib.hid hl; have HO := Lib.hid ho; clear hl ho
  go_enter Tryz.func52, Tryz.ntmps52
  go_wp2_with fail
  have HX := Lib.hid (Bx.new w #[.int .i64 x, .int .i64 y] 23)
  have HO1 := Lib.hid (HO.out.alloc (.cells #[.int .i64 x, .int .i64 y] 23))
  have F1 := Lib.hid ((Fr.refl base none w).alloc hb (.cells #[.int .i64 x, .int .i64 y] 23))
  have hb1 : base ≤ (w.alloc (.cells #[.int .i64 x, .int .i64 y] 23)).heap.size := Nat.le_trans hb F1.out.size
  have HB1 := Lib.hid hb1
  clear hb1 HO
  generalize w.alloc (.cells #[.int .i64 x, .int .i64 y] 23) = w1 at *
  have QC := Lib.hid (show ∀ w', Bx w' w.heap.size #[.int .i64 x, .int .i64 y] 23 → w'.cell? ⟨w.heap.size, 0, none⟩ = some (.int .i64 x) ∧ w'.cell? ⟨w.heap.size, 1, none⟩ = some (.int .i64 y) from fun w' h => ⟨h.cell 0 rfl, h.cell 1 rfl⟩)
  refine wp_region_held_drew (S := fun w' => w'.cell? ⟨w.heap.size, 0, none⟩ = some (.int .i64 x) ∧ w'.cell? ⟨w.heap.size, 1, none⟩ = some (.int .i64 y)) (by kernel_rfl) (QC.out _ HX.out) (fun hHeld => ?_)
  refine wpAnyH_take (i := 0) (v := ?_) (by simp only [List.getElem?_toArray, List.getElem?_cons_succ, List.getElem?_cons_zero]; rfl) (by kernel_rfl) (by kernel_rfl) (by kernel_rfl) (by intro _ _ _ h; exact h) (Or.inl ⟨by rfl, ?_⟩) hHeld ?_
  rotate_left 1
  · intro w hSw; (try dsimp only at hSw); go_simp; try with_reducible rfl
  try simp only [Act.put, List.setIfInBounds_toArray, List.set_cons_zero, List.set_cons_succ]
  refine wpAnyH_take (i := 1) (v := ?_) (by simp only [List.getElem?_toArray, List.getElem?_cons_succ, List.getElem?_cons_zero]; rfl) (by kernel_rfl) (by kernel_rfl) (by kernel_rfl) (by intro _ _ _ h; exact h) (Or.inl ⟨by rfl, ?_⟩) hHeld ?_
  rotate_left 1
  · intro w hSw; (try dsimp only at hSw); go_simp; try with_reducible rfl
  try simp only [Act.put, List.setIfInBounds_toArray, List.set_cons_zero, List.set_cons_succ]
  refine wpAnyH_take (i := 2) (v := ?_) (by simp only [List.getElem?_toArray, List.getElem?_cons_succ, List.getElem?_cons_zero]; rfl) (by kernel_rfl) (by kernel_rfl) (by kernel_rfl) (by intro _ _ _ h; exact h) (Or.inl ⟨by rfl, ?_⟩) hHeld ?_
  rotate_left 1
  · intro w hSw; (try dsimp only at hSw); go_simp; try with_reducible rfl
  try simp only [Act.put, List.setIfInBounds_toArray, List.set_cons_zero, List.set_cons_succ]
  refine wpAnyH_take (i := 3) (v := ?_) (by simp only [List.getElem?_toArray, List.getElem?_cons_succ, List.getElem?_cons_zero]; rfl) (by kernel_rfl) (by kernel_rfl) (by kernel_rfl) (by intro _ _ _ h; exact h) (Or.inl ⟨by rfl, ?_⟩) hHeld ?_
  rotate_left 1
  · intro w hSw; (try dsimp only at hSw); go_simp; try with_reducible rfl
  try simp only [Act.put, List.setIfInBounds_toArray, List.set_cons_zero, List.set_cons_succ]
  refine wpAnyH_take (i := 5) (v := ?_) (by simp only [List.getElem?_toArray, List.getElem?_cons_succ, List.getElem?_cons_zero]; rfl) (by kernel_rfl) (by kernel_rfl) (by kernel_rfl) (by intro _ _ _ h; exact h) (Or.inl ⟨by rfl, ?_⟩) hHeld ?_
  rotate_left 1
  · intro w hSw; (try dsimp only at hSw); go_simp; try with_reducible rfl
  try simp only [Act.put, List.setIfInBounds_toArray, List.set_cons_zero, List.set_cons_succ]
  refine wpAnyH_take (i := 6) (v := ?_) (by simp only [List.getElem?_toArray, List.getElem?_cons_succ, List.getElem?_cons_zero]; rfl) (by kernel_rfl) (by kernel_rfl) (by kernel_rfl) (by intro _ _ _ h; exact h) (Or.inl ⟨by rfl, ?_⟩) hHeld ?_
  rotate_left 1
  · intro w hSw; (try dsimp only at hSw); go_simp; try with_reducible rfl
  try simp only [Act.put, List.setIfInBounds_toArray, List.set_cons_zero, List.set_cons_succ]
  refine wpAnyH_take (i := 7) (v := ?_) (by simp only [List.getElem?_toArray, List.getElem?_cons_succ, List.getElem?_cons_zero]; rfl) (by kernel_rfl) (by kernel_rfl) (by kernel_rfl) (by intro _ _ _ h; exact h) (Or.inl ⟨by rfl, ?_⟩) hHeld ?_
  rotate_left 1
  · intro w hSw; (try dsimp only at hSw); go_simp; try with_reducible rfl
  try simp only [Act.put, List.setIfInBounds_toArray, List.set_cons_zero, List.set_cons_succ]
  refine wpAnyH_ready (rs := [4]) (by kernel_rfl) (by simp) ?_
  refine AllReadyH.cons (by simp only [List.getElem?_toArray, List.getElem?_cons_succ, List.getElem?_cons_zero]; rfl) (fun K hK => ?_) AllReadyH.nil
  go_simp
  refine (ref18_word base v l (IntKind.u64.wrap x) (isW_wrap _) (by have := HLL.out; omega) w1.drew HB1.out HO1.out.drew).mono ?_
  rintro e w2 ⟨⟨v2, rfl, h2⟩, g2⟩
  have HO2 := Lib.hid h2; have F2 := Lib.hid (F1.out.drew.trans g2); have HX2 := Lib.hid (g2.keep _ _ _ (by decide) (by simp) (bx_dr HX.out)); have HB2 := Lib.hid (Nat.le_trans HB1.out g2.size); clear h2 g2
  go_wp2_with fail
  refine hK.out _ _ (QC.out _ HX2.out) (fun hHeld2 => ?_)
  clear hK K hHeld; have hHeld := hHeld2; clear hHeld2
  try simp only [Act.put, List.setIfInBounds_toArray, List.set_cons_zero, List.set_cons_succ]
  refine wpAnyH_ready (rs := [8]) (by kernel_rfl) (by simp) ?_
  refine AllReadyH.cons (by simp only [List.getElem?_toArray, List.getElem?_cons_succ, List.getElem?_cons_zero]; rfl) (fun K hK => ?_) AllReadyH.nil
  go_simp
  refine (ref18_word base v2 _ (IntKind.u64.wrap y) (isW_wrap _) (by have := HLL.out; simp [le8_len]; omega) _ HB2.out HO2.out).mono ?_
  rintro e w3 ⟨⟨v3, rfl, h3⟩, g3⟩
  have HO3 := Lib.hid h3; have F3 := Lib.hid (F2.out.trans g3); have HX3 := Lib.hid (g3.keep _ _ _ (by decide) (by simp) HX2.out); clear h3 g3
  go_wp2_with fail
  refine hK.out _ _ (QC.out _ HX3.out) (fun hHeld2 => ?_)
  clear hK K hHeld; have hHeld := hHeld2; clear hHeld2
  try simp only [Act.put, List.setIfInBounds_toArray, List.set_cons_zero, List.set_cons_succ]
  refine wpAnyH_take (i := 9) (v := ?_) (by simp only [List.getElem?_toArray, List.getElem?_cons_succ, List.getElem?_cons_zero]; rfl) (by kernel_rfl) (by kernel_rfl) (by kernel_rfl) (by intro _ _ _ h; exact h) (Or.inl ⟨by rfl, ?_⟩) hHeld ?_
  rotate_left 1
  · intro w hSw; (try dsimp only at hSw); go_simp; try with_reducible rfl
  try simp only [Act.put, List.setIfInBounds_toArray, List.set_cons_zero, List.set_cons_succ]
  refine wpAnyH_done (by kernel_rfl) ?_ _
  clear hHeld
  go_wp2_with fail
  go_ret
  refine ⟨⟨_, rfl, ?_⟩, F3.out⟩
  have := HO3.out
  rw [wrapU, wrapU, List.append_assoc] at this
  exact this
end Go.Proofs.YtjdiilkljgljkaaGreatDoor
namespace Go.Proofs.YtjdiilkljgljkaaGreatDoor
set_option linter.unusedVariables false
open Go

theorem step_append_own {P : Program} {ops : Array Oper} {o : Oper} {a : Act} {w : World} {K : Act → World → Prop} {Q : Exit → Act → World → Prop} {E : Prop}
    (hg : o.guard = none) (s x : Operand) (t : TypeId) (hop : o.op = Op.call { callee := Callee.builtin Builtin.append, args := #[s, x], argTypes := #[t, t] })
    (base : Nat) (e : TypeId) (i : TypeInfo) (z : Value) (size bytes : Nat) (h1 : P.underlying t = some (.slice e)) (h2 : P.info? e = some i) (h3 : i.zero = some z) (h4 : i.size = size) (h5 : i.bytes = bytes) (h6 : z.cells.size = size) (h7 : 0 < size)
    (v : Value) (k : Nat) (xs : List Value) (hs : a.eval s = v) (hown : w.ownsRow base e size v k xs) (ad : Addr) (m c : Nat) (news : List Value) (hx : a.eval x = .slice (some ad) m c) (hn : news.length = m * size)
    (hc : ∀ j u, news[j]? = some u → w.cell? (ad.add j) = some u) (h1c : ∀ u ∈ news, u.oneCell' = true) (b1 : k + m ≤ maxLen) (b2 : (k + m) * bytes ≤ 140737488355328) (b3 : base ≤ w.heap.size)
    (hK : ∀ v' w', w'.ownsRow base e size v' (k + m) (xs ++ news) → w.grownBy w' v.ownBlock → K (a.put o.dst v') w') :
    if Region.wanted o (yielded ops a.tmps) = true then Oper.wp P o a w K Q else E := by
  have hw : Region.wanted o (yielded ops a.tmps) = true := by simp [Region.wanted, hg]
  rw [if_pos hw]
  obtain ⟨v', w', hrun, r1, r2, _⟩ := run_append_own (P := P) w base t o.type e i z size bytes h1 h2 h3 h4 h5 h6 h7 v k xs hown ad m c news hn hc h1c b1 b2 b3
  subst hs
  unfold Oper.wp
  simp [execOp, hop, resolve, invoke, builtin, hx, hrun, Result.andThen]
  exact hK _ _ r1 r2
end Go.Proofs.YtjdiilkljgljkaaGreatDoor
namespace Go.Proofs.YtjdiilkljgljkaaGreatDoor
set_option linter.unusedVariables false
set_option linter.unusedSimpArgs false
open Go.RowKit Wd

/-- block bw is a writer that holds these bytes in a row of the call's own, from block base on -/
def Wr (w : World) (base bw : Nat) (l : List Int) : Prop := base ≤ bw ∧ ∃ v, Bx w bw #[v] 142 ∧ OwB w base v l
theorem Wr.below {w w' : World} {base bw B : Nat} {l : List Int} (h : Wr w base bw l) (hb : Below B w w') (hB : w.heap.size ≤ B) : Wr w' base bw l := by
  obtain ⟨h1, v, h2, h3⟩ := h; exact ⟨h1, v, h2.below hb hB, h3.below hb hB⟩
theorem byt_shift {x : Int} {k : Nat} (hk : k < 8) : x / 2 ^ (8 * (k : Int)).toNat = x / 256 ^ k := by
  rw [show (8 * (k : Int)).toNat = 8 * k by omega, Int.pow_mul]; rfl
set_option maxHeartbeats 4000000 in
set_option maxRecDepth 100000 in
theorem writer_word (base bw : Nat) (l : List Int) (x : Int) (hx : IsW x) (hl : l.length ≤ 1000000) (w : World) (hb : base ≤ w.heap.size) (hw : Wr w base bw l) :
    Calls Tryz.prog 124 #[.pointer (some ⟨bw, 0, none⟩), .int .u64 x] w fun e w' => e = .returned (.tuple #[]) ∧ Wr w' base bw (l ++ le8 x) ∧ Fr base (some bw) w w' := by
  obtain ⟨i0, hi0, hz0, hz1, hz2⟩ := info_parts infoB
  have HW := Lib.hid hw; have HX := Lib.hid hx; have HLL := Lib.hid hl; clear hw hx hl
  go_enter Tryz.func124, Tryz.ntmps124
  go_wp2_with fail
  go_loopw [5] (fun ir wr => ∃ k : Nat, k ≤ 8 ∧ ir = .int .i64 (k : Int) ∧ Wr wr base bw (l ++ bytL x k) ∧ Fr base (some bw) w wr) (fun i _ => 8 - (intOf i).toNat)
  case atStart => exact ⟨0, Nat.zero_le _, rfl, by simpa [bytL] using HW.out, Fr.refl _ _ _⟩
  case round =>
    obtain ⟨k, hk, rfl, hwr, hbr⟩ := hrel
    have HBR := Lib.hid hbr; clear hbr
    by_cases hlt : k < 8
    · obtain ⟨hbb, v, hbx, hov⟩ := hwr
      obtain ⟨A, c, rfl⟩ := hov.slice
      have hlen : (l ++ bytL x k).length = l.length + k := by simp [bytL_len]
      rw [hlen] at hbx hov
      have hown : wr.ownsRow base 5 1 (.slice A (l.length + k) c) (l.length + k) (bCells (l ++ bytL x k)) := by have := hov; unfold OwB at this; rw [hlen] at this; exact this
      have hsz : base ≤ wr.heap.size := Nat.le_trans hb HBR.out.size
      have HOWN := Lib.hid hown; have FW := Lib.hid hbx; have HBB := Lib.hid hbb; have HLN := Lib.hid hlen; have HSZ := Lib.hid hsz
      have hlw := hbx.lt
      have hne : ¬ (wr.heap.size = bw) := by omega
      have c0 := hbx.cell 0 (v := .slice A (l.length + k) c) rfl
      clear hbb hbx hov hown hlen hsz
      have hsh := byt_shift (x := x) hlt
      have hwy := isW_div HX.out k
      generalize hy : x / 256 ^ k = y at *
      have HY := Lib.hid hy; clear hy
      have hq : 0 ≤ x := HX.out.1
      have e1 := wrapU8 y
      have e2 : IntKind.i64.wrap (8 * (k : Int)) = 8 * (k : Int) := by rw [IntKind.wrap_i64]; omega
      go_wp2_with fail
      have HC := Lib.hid (cells_one_new wr.drew (.int .u8 (y % 256)) 5)
      have HB1 := Lib.hid (show Bx (wr.drew.alloc (.cells #[.int .u8 (y % 256)] 5)) bw #[.slice A (l.length + k) c] 142 from (bx_dr FW.out).alloc _)
      have HF1 := Lib.hid (show Fr base (some bw) w (wr.drew.alloc (.cells #[.int .u8 (y % 256)] 5)) from HBR.out.drew.alloc HSZ.out _)
      have HO1 := Lib.hid (show (wr.drew.alloc (.cells #[.int .u8 (y % 256)] 5)).ownsRow base 5 1 (.slice A (l.length + k) c) (l.length + k) (bCells (l ++ bytL x k)) from (HOWN.out.drew).alloc _)
      have HSZ1 := Lib.hid (show base ≤ (wr.drew.alloc (.cells #[.int .u8 (y % 256)] 5)).heap.size from Nat.le_trans HSZ.out (by simp))
      go_region_law ((refine step_append_own rfl _ _ 24 rfl base 5 i0 (.int .u8 0) 1 1 Tryz.underlying24 hi0 hz0 hz1 hz2 rfl (by decide) _ _ _ rfl HO1.out ⟨wr.heap.size, 0, none⟩ 1 1 [.int .u8 (y % 256)] rfl rfl HC.out (one_oneCell _ _) (by have := HLL.out; unfold maxLen; omega) (by have := HLL.out; omega) HSZ1.out ?_; intro v' w2 hown2 hgrow; obtain ⟨g2, cap2, rfl, -, -⟩ := hown2.form (by omega); have HB2 := Lib.hid (bx_grownB HB1.out (by decide) hgrow HO1.out); have HF2 := Lib.hid (HF1.out.grown hgrow HO1.out HSZ1.out); have HO2 := Lib.hid hown2; clear hown2 hgrow c0; have c0 := HB2.out.cell 0 (v := .slice A (l.length + k) c) rfl; have z0 := HB2.out.free 0))
      all_goals
        have HO3 := Lib.hid (show OwB w2 base (.slice (some ⟨g2, 0, none⟩) (l.length + k + 1) cap2) (l ++ bytL x (k + 1)) from by
          rw [bytL_succ, ← List.append_assoc]
          refine OwB.snoc (n := l.length + k + 1) ?_ (by rw [HLN.out])
          unfold byt; rw [HY.out]; exact HO2.out)
        have HF3 := Lib.hid (HF2.out.setEx (i := 0) (v := .slice (some ⟨g2, 0, none⟩) (l.length + k + 1) cap2) HBB.out)
        have HWR := Lib.hid (show Wr (w2.setCell ⟨bw, 0, none⟩ (.slice (some ⟨g2, 0, none⟩) (l.length + k + 1) cap2)) base bw (l ++ bytL x (k + 1)) from ⟨HBB.out, _, HB2.out.set 0 _, HO3.out.setOther HB2.out (by decide)⟩)
        clear HO3 HO2 HB2 HF2 HB1 HO1 HF1 HC
        go_wp2_with fail
        go_roundw
        case rel => exact ⟨k + 1, by omega, by go_num, HWR.out, HF3.out⟩
        case measure => simp [intOf]; omega
    · obtain rfl : k = 8 := by omega
      have HWR := Lib.hid hwr; clear hwr
      go_wp2_with fail
      go_end0
      exact ⟨rfl, HWR.out, HBR.out⟩
end Go.Proofs.YtjdiilkljgljkaaGreatDoor
namespace Go.Proofs.YtjdiilkljgljkaaGreatDoor
set_option linter.unusedVariables false
set_option linter.unusedSimpArgs false
open Go.RowKit Wd

theorem Wr.lt {w : World} {base bw : Nat} {l : List Int} (h : Wr w base bw l) : bw < w.heap.size := by obtain ⟨_, v, h2, _⟩ := h; exact h2.lt
theorem Wr.alloc {w : World} {base bw : Nat} {l : List Int} (h : Wr w base bw l) (o : Obj) : Wr (w.alloc o) base bw l :=
  h.below ((Below.refl w.heap.size w).alloc (Nat.le_refl _) o) (Nat.le_refl _)
theorem Wr.drew {w : World} {base bw : Nat} {l : List Int} (h : Wr w base bw l) : Wr w.drew base bw l := h.below (Below.refl w.heap.size w).drew (Nat.le_refl _)
set_option maxHeartbeats 4000000 in
set_option maxRecDepth 100000 in
theorem writer_point (base bw : Nat) (l : List Int) (x y : Int) (hl : l.length ≤ 900000) (w : World) (hb : base ≤ w.heap.size) (hw : Wr w base bw l) :
    Calls Tryz.prog 114 #[.pointer (some ⟨bw, 0, none⟩), .agg #[.int .i64 x, .int .i64 y]] w fun e w' => e = .returned (.tuple #[]) ∧ Wr w' base bw (l ++ ptB x y) ∧ Fr base (some bw) w w' := by
  have HLL := Lib.hid hl; have HW := Lib.hid hw; have HLT := Lib.hid hw.lt; clear hl hw
  go_enter Tryz.func114, Tryz.ntmps114
  go_wp2_with fail
  have HX := Lib.hid (Bx.new w #[.int .i64 x, .int .i64 y] 23)
  have HW1 := Lib.hid (HW.out.alloc (.cells #[.int .i64 x, .int .i64 y] 23))
  have F1 := Lib.hid ((Fr.refl base (some bw) w).alloc hb (.cells #[.int .i64 x, .int .i64 y] 23))
  have HNE := Lib.hid (show some w.heap.size ≠ some bw from by have := HLT.out; simp; omega)
  generalize w.alloc (.cells #[.int .i64 x, .int .i64 y] 23) = w1 at *
  have HB1 := Lib.hid (Nat.le_trans hb F1.out.size)
  clear HW HLT
  refine (writer_word base bw l (IntKind.u64.wrap x) (isW_wrap _) (by have := HLL.out; omega) _ HB1.out HW1.out).mono ?_
  rintro e w2 ⟨rfl, h2, g2⟩
  have HW2 := Lib.hid h2; have F2 := Lib.hid (F1.out.trans g2); have HX2 := Lib.hid (g2.keep _ _ _ (by decide) HNE.out HX.out); have HB2 := Lib.hid (Nat.le_trans HB1.out g2.size); clear h2 g2 HW1 HX F1
  have c1 := HX2.out.cell 1 (v := .int .i64 y) rfl
  go_wp2_with fail
  clear c1
  refine (writer_word base bw _ (IntKind.u64.wrap y) (isW_wrap _) (by have := HLL.out; simp [le8_len]; omega) _ HB2.out HW2.out).mono ?_
  rintro e w3 ⟨rfl, h3, g3⟩
  have HW3 := Lib.hid h3; have F3 := Lib.hid (F2.out.trans g3); clear h3 g3
  go_wp2_with fail
  go_end0
  refine ⟨rfl, ?_, F3.out⟩
  have := HW3.out
  rw [wrapU, wrapU, List.append_assoc] at this
  exact this
/-- the bytes of a query -/
def quB (x y d : Int) : List Int := ptB x y ++ le8 d
theorem quB_len (x y d : Int) : (quB x y d).length = 24 := by simp [quB, ptB_len, le8_len]
set_option maxHeartbeats 4000000 in
set_option maxRecDepth 100000 in
theorem writer_query (base bw : Nat) (l : List Int) (x y d : Int) (hd : IsW d) (hl : l.length ≤ 800000) (w : World) (hb : base ≤ w.heap.size) (hw : Wr w base bw l) :
    Calls Tryz.prog 116 #[.pointer (some ⟨bw, 0, none⟩), .agg #[.int .i64 x, .int .i64 y, .int .u64 d]] w fun e w' => e = .returned (.tuple #[]) ∧ Wr w' base bw (l ++ quB x y d) ∧ Fr base (some bw) w w' := by
  have HLL := Lib.hid hl; have HW := Lib.hid hw; have HLT := Lib.hid hw.lt; have HD := Lib.hid hd; clear hl hw hd
  go_enter Tryz.func116, Tryz.ntmps116
  go_wp2_with fail
  have HX := Lib.hid (Bx.new w #[.int .i64 x, .int .i64 y, .int .u64 d] 63)
  have HW1 := Lib.hid (HW.out.alloc (.cells #[.int .i64 x, .int .i64 y, .int .u64 d] 63))
  have F1 := Lib.hid ((Fr.refl base (some bw) w).alloc hb (.cells #[.int .i64 x, .int .i64 y, .int .u64 d] 63))
  have HNE := Lib.hid (show some w.heap.size ≠ some bw from by have := HLT.out; simp; omega)
  generalize w.alloc (.cells #[.int .i64 x, .int .i64 y, .int .u64 d] 63) = w1 at *
  have HB1 := Lib.hid (Nat.le_trans hb F1.out.size)
  clear HW HLT
  refine (writer_point base bw l x y (by have := HLL.out; omega) _ HB1.out HW1.out).mono ?_
  rintro e w2 ⟨rfl, h2, g2⟩
  have HW2 := Lib.hid h2; have F2 := Lib.hid (F1.out.trans g2); have HX2 := Lib.hid (g2.keep _ _ _ (by decide) HNE.out HX.out); have HB2 := Lib.hid (Nat.le_trans HB1.out g2.size); clear h2 g2 HW1 HX F1
  have c1 := HX2.out.cell 2 (v := .int .u64 d) rfl
  go_wp2_with fail
  clear c1
  refine (writer_word base bw _ d HD.out (by have := HLL.out; simp [ptB_len]; omega) _ HB2.out HW2.out).mono ?_
  rintro e w3 ⟨rfl, h3, g3⟩
  have HW3 := Lib.hid h3; have F3 := Lib.hid (F2.out.trans g3); clear h3 g3
  go_wp2_with fail
  go_end0
  refine ⟨rfl, ?_, F3.out⟩
  have := HW3.out
  rw [List.append_assoc] at this
  exact this
/-- the bytes of a record -/
def rcB (v d : Int) : List Int := [v] ++ le8 d
theorem rcB_len (v d : Int) : (rcB v d).length = 9 := by simp [rcB, le8_len]
set_option maxHeartbeats 4000000 in
set_option maxRecDepth 100000 in
theorem writer_record (base bw : Nat) (l : List Int) (y d : Int) (hy : 0 ≤ y ∧ y ≤ 255) (hd : IsW d) (hl : l.length ≤ 800000) (w : World) (hb : base ≤ w.heap.size) (hw : Wr w base bw l) :
    Calls Tryz.prog 91 #[.pointer (some ⟨bw, 0, none⟩), .agg #[.int .u64 y, .int .u64 d]] w fun e w' => e = .returned (.tuple #[]) ∧ Wr w' base bw (l ++ rcB y d) ∧ Fr base (some bw) w w' := by
  obtain ⟨i0, hi0, hz0, hz1, hz2⟩ := info_parts infoB
  have HLL := Lib.hid hl; have HW := Lib.hid hw; have HLT := Lib.hid hw.lt; have HD := Lib.hid hd; clear hl hw hd
  have e1 : IntKind.u8.wrap y = y := by rw [IntKind.wrap_u8]; omega
  have HY := Lib.hid hy; clear hy
  go_enter Tryz.func91, Tryz.ntmps91
  go_wp2_with fail
  have HX := Lib.hid (Bx.new w #[.int .u64 y, .int .u64 d] 86)
  have HW1 := Lib.hid (HW.out.alloc (.cells #[.int .u64 y, .int .u64 d] 86))
  have F1 := Lib.hid ((Fr.refl base (some bw) w).alloc hb (.cells #[.int .u64 y, .int .u64 d] 86))
  have HNE := Lib.hid (show some w.heap.size ≠ some bw from by have := HLT.out; simp; omega)
  generalize w.alloc (.cells #[.int .u64 y, .int .u64 d] 86) = w1 at *
  have HB1 := Lib.hid (Nat.le_trans hb F1.out.size)
  clear HW HLT
  obtain ⟨hbb, v, hbx, hov⟩ := HW1.out
  obtain ⟨A, c, rfl⟩ := hov.slice
  have HOWN := Lib.hid (show w1.ownsRow base 5 1 (.slice A l.length c) l.length (bCells l) from hov); have FW := Lib.hid hbx; have HBB := Lib.hid hbb
  have hlw := hbx.lt
  have hlx := HX.out.lt
  have hne : ¬ (w1.heap.size = bw) := by omega
  have hne2 : ¬ (w1.heap.size = w.heap.size) := by omega
  have c0 := hbx.cell 0 (v := .slice A l.length c) rfl
  have x0 := HX.out.cell 0 (v := .int .u64 y) rfl
  clear hbb hbx hov HW1
  have HC := Lib.hid (cells_one_new w1.drew (.int .u8 y) 5)
  have HB1' := Lib.hid (show Bx (w1.drew.alloc (.cells #[.int .u8 y] 5)) bw #[.slice A l.length c] 142 from (bx_dr FW.out).alloc _)
  have HF1 := Lib.hid (show Fr base (some bw) w (w1.drew.alloc (.cells #[.int .u8 y] 5)) from F1.out.drew.alloc HB1.out _)
  have HO1 := Lib.hid (show (w1.drew.alloc (.cells #[.int .u8 y] 5)).ownsRow base 5 1 (.slice A l.length c) l.length (bCells l) from (HOWN.out.drew).alloc _)
  have HXX := Lib.hid (show Bx (w1.drew.alloc (.cells #[.int .u8 y] 5)) w.heap.size #[.int .u64 y, .int .u64 d] 86 from (bx_dr HX.out).alloc _)
  have HSZ1 := Lib.hid (show base ≤ (w1.drew.alloc (.cells #[.int .u8 y] 5)).heap.size from Nat.le_trans HB1.out (by simp))
  go_region_law ((refine step_append_own rfl _ _ 24 rfl base 5 i0 (.int .u8 0) 1 1 Tryz.underlying24 hi0 hz0 hz1 hz2 rfl (by decide) _ _ _ rfl HO1.out ⟨w1.heap.size, 0, none⟩ 1 1 [.int .u8 y] rfl rfl HC.out (one_oneCell _ _) (by have := HLL.out; unfold maxLen; omega) (by have := HLL.out; omega) HSZ1.out ?_; intro v' w2 hown2 hgrow; obtain ⟨g2, cap2, rfl, -, -⟩ := hown2.form (by omega); have HB2 := Lib.hid (bx_grownB HB1'.out (by decide) hgrow HO1.out); have HX2 := Lib.hid (bx_grownB HXX.out (by decide) hgrow HO1.out); have HF2 := Lib.hid (HF1.out.grown hgrow HO1.out HSZ1.out); have HO2 := Lib.hid hown2; have HS2 := Lib.hid (Nat.le_trans HSZ1.out hgrow.size); clear hown2 hgrow c0 x0; have c0 := HB2.out.cell 0 (v := .slice A l.length c) rfl; have z0 := HB2.out.free 0))
  all_goals
    have HO3 := Lib.hid (show OwB w2 base (.slice (some ⟨g2, 0, none⟩) (l.length + 1) cap2) (l ++ [y]) from OwB.snoc (n := l.length + 1) HO2.out rfl)
    have HF3 := Lib.hid (HF2.out.setEx (i := 0) (v := .slice (some ⟨g2, 0, none⟩) (l.length + 1) cap2) HBB.out)
    have HWR := Lib.hid (show Wr (w2.setCell ⟨bw, 0, none⟩ (.slice (some ⟨g2, 0, none⟩) (l.length + 1) cap2)) base bw (l ++ [y]) from ⟨HBB.out, _, HB2.out.set 0 _, HO3.out.setOther HB2.out (by decide)⟩)
    have HX3 := Lib.hid (show Bx (w2.setCell ⟨bw, 0, none⟩ (.slice (some ⟨g2, 0, none⟩) (l.length + 1) cap2)) w.heap.size #[.int .u64 y, .int .u64 d] 86 from HX2.out.other _ (by have := HNE.out; simpa using this))
    have HS3 := Lib.hid (Nat.le_trans hb HF3.out.size)
    clear HO3 HO2 HB2 HF2 HB1' HO1 HF1 HC c0 z0 HX2 HXX
    generalize w2.setCell ⟨bw, 0, none⟩ (.slice (some ⟨g2, 0, none⟩) (l.length + 1) cap2) = w3 at *
    have c1 := HX3.out.cell 1 (v := .int .u64 d) rfl
    go_wp2_with fail
    clear c1
    refine (writer_word base bw _ d HD.out (by have := HLL.out; simp; omega) _ HS3.out HWR.out).mono ?_
    rintro e w4 ⟨rfl, h4, g4⟩
    have HW4 := Lib.hid h4; have F4 := Lib.hid (HF3.out.trans g4); clear h4 g4
    go_wp2_with fail
    go_end0
    refine ⟨rfl, ?_, F4.out⟩
    have := HW4.out
    rw [List.append_assoc] at this
    exact this
end Go.Proofs.YtjdiilkljgljkaaGreatDoor
namespace Go.Proofs.YtjdiilkljgljkaaGreatDoor
set_option linter.unusedVariables false
set_option linter.unusedSimpArgs false
open Go.RowKit Wd

def isB (x : Int) : Prop := 0 ≤ x ∧ x ≤ 255
theorem byt_isB (x : Int) (i : Nat) : isB (byt x i) := by unfold isB byt; omega
/-- block br is a reader whose bytes to come are these -/
def Rd (w : World) (br : Nat) (l : List Int) : Prop := ∃ A c, Bx w br #[.slice A l.length c] 131 ∧ By w A c l
theorem Rd.lt {w : World} {br : Nat} {l : List Int} (h : Rd w br l) : br < w.heap.size := by obtain ⟨A, c, h1, _⟩ := h; exact h1.lt
theorem Rd.below {w w' : World} {br B : Nat} {l : List Int} (h : Rd w br l) (hb : Below B w w') (hB : w.heap.size ≤ B) : Rd w' br l := by
  obtain ⟨A, c, h1, h2⟩ := h; exact ⟨A, c, h1.below hb hB, h2.below hb hB⟩
theorem Rd.alloc {w : World} {br : Nat} {l : List Int} (h : Rd w br l) (o : Obj) : Rd (w.alloc o) br l := h.below ((Below.refl w.heap.size w).alloc (Nat.le_refl _) o) (Nat.le_refl _)
theorem Rd.drew {w : World} {br : Nat} {l : List Int} (h : Rd w br l) : Rd w.drew br l := h.below (Below.refl w.heap.size w).drew (Nat.le_refl _)
/-- slices whose cells are other than block br's stay -/
theorem by_gr {w w' : World} {br : Nat} {A : Option Addr} {c : Nat} {l : List Int} {X : Option Addr} {n m : Nat} {t : TypeId} (h : By w A c l) (hb : Bx w br #[.slice X n m] t) (hg : w.grownBy w' (some br)) : By w' A c l :=
  ⟨h.cap, h.max, fun h0 => by
    obtain ⟨b, off, e, hlt, hc⟩ := h.at_ h0
    have hne : b ≠ br := fun e2 => by
      subst e2
      have hx : l[0]? = some (l[0]'h0) := List.getElem?_eq_getElem h0
      have h1 := hc 0 _ hx
      unfold Bx at hb
      simp only [World.cell?, hb] at h1
      rcases Nat.eq_zero_or_pos (off + 0) with h2 | h2
      · simp [h2] at h1
      · rw [Array.getElem?_eq_none (by simp; omega)] at h1; simp at h1
    refine ⟨b, off, e, Nat.lt_of_lt_of_le hlt hg.size, fun i x hi => ?_⟩
    exact (World.cell?_of_block (w := w) (w' := w') (a := ⟨b, off + i, none⟩) (hg.block b hlt (by simpa using hne))).trans (hc i x hi)⟩
theorem pts_gr {w w' : World} {br : Nat} {A : Option Addr} {n c : Nat} {f g : Nat → Int} {X : Option Addr} {k m : Nat} {t : TypeId} (h : Pts w A n c f g) (hb : Bx w br #[.slice X k m] t) (hg : w.grownBy w' (some br)) : Pts w' A n c f g :=
  ⟨h.cap, h.max, h.isi, fun h0 => by
    obtain ⟨b, off, e, hlt, hc⟩ := h.at_ h0
    have hne : b ≠ br := fun e2 => by
      subst e2
      have h1 := (hc 0 h0).1
      unfold Bx at hb
      simp only [World.cell?, hb] at h1
      rcases Nat.eq_zero_or_pos (off + 0 * 2) with h2 | h2
      · simp [h2] at h1
      · rw [Array.getElem?_eq_none (by simp; omega)] at h1; simp at h1
    refine ⟨b, off, e, Nat.lt_of_lt_of_le hlt hg.size, fun i hi => ⟨?_, ?_⟩⟩
    · exact (World.cell?_of_block (w := w) (w' := w') (a := ⟨b, off + i * 2, none⟩) (hg.block b hlt (by simpa using hne))).trans (hc i hi).1
    · exact (World.cell?_of_block (w := w) (w' := w') (a := ⟨b, off + i * 2 + 1, none⟩) (hg.block b hlt (by simpa using hne))).trans (hc i hi).2⟩
theorem below_gr {w w' w0 : World} {br B : Nat} (h : Below B w0 w) (hB : B ≤ br) (hs : B ≤ w.heap.size) (hg : w.grownBy w' (some br)) : Below B w0 w' := h.grown hg hs (fun k e => by cases e; exact hB)
theorem gr_set (w : World) (br i : Nat) (v : Value) : w.grownBy (w.setCell ⟨br, i, none⟩ v) (some br) :=
  ⟨rfl, rfl, rfl, by simp [World.setCell], fun k hk hne => Below.heap_setCell _ _ _ _ (by simpa using hne)⟩
theorem gr_drew (w : World) (r : Option Nat) : w.grownBy w.drew r := ⟨rfl, rfl, rfl, Nat.le_refl _, fun _ _ _ => rfl⟩
theorem By.tail {w : World} {b off c : Nat} {y : Int} {l : List Int} (h : By w (some ⟨b, off, none⟩) c (y :: l)) : By w (if c = 1 then some ⟨b, off, none⟩ else some ⟨b, off + 1, none⟩) (c - 1) l :=
  ⟨by have := h.cap; simp at this; omega, by have := h.max; omega, fun h0 => by
    obtain ⟨b', o', e, hlt, hc⟩ := h.at_ (by simp)
    obtain ⟨rfl, rfl⟩ : b = b' ∧ off = o' := by simpa using e
    have hcp := h.cap
    simp at hcp
    rw [if_neg (by omega)]
    refine ⟨b, off + 1, rfl, hlt, fun i x hi => ?_⟩
    have := hc (i + 1) x (by simpa using hi)
    rw [← Nat.add_assoc, Nat.add_right_comm] at this; exact this⟩
set_option maxHeartbeats 4000000 in
set_option maxRecDepth 100000 in
theorem reader_byte (br : Nat) (y : Int) (l : List Int) (w : World) (hr : Rd w br (y :: l)) :
    Calls Tryz.prog 132 #[.pointer (some ⟨br, 0, none⟩)] w fun e w' => e = .returned (.int .u8 y) ∧ Rd w' br l ∧ w.grownBy w' (some br) := by
  obtain ⟨A, c, hb, hy⟩ := hr
  obtain ⟨b, off, rfl, hlt, hc⟩ := hy.at_ (by simp)
  have HB := Lib.hid hb; have HY := Lib.hid hy
  have c0 := hb.cell 0 (v := .slice (some ⟨b, off, none⟩) (y :: l).length c) rfl
  have z0 := hb.free 0
  have c1 := hc 0 y rfl
  rw [Nat.add_zero] at c1
  have hcp := hy.cap
  have hmx := hy.max
  have HMX := Lib.hid hmx
  unfold maxLen at hmx
  simp only [List.length_cons] at c0 hcp
  clear hb hy hc
  have HRD := Lib.hid (show ∀ w', (Bx w' br #[.slice (if c = 1 then some ⟨b, off, none⟩ else some ⟨b, off + 1, none⟩) l.length (c - 1)] 131) → w.grownBy w' (some br) → Rd w' br l from fun w' h1 h2 => ⟨_, _, h1, by_gr HY.out.tail HB.out h2⟩)
  by_cases hc1 : c = 1
  · have hln : l.length = 0 := by omega
    rw [if_pos hc1] at HRD
    have HLN := Lib.hid hln
    go_enter Tryz.func132, Tryz.ntmps132
    go_wp2_with fail
    go_ret
    exact ⟨rfl, HRD.out _ (by have := HB.out.set 0 (.slice (some ⟨b, off, none⟩) l.length (c - 1)); simpa [HLN.out, hc1] using this) (gr_set _ _ _ _), gr_set _ _ _ _⟩
  · rw [if_neg hc1] at HRD
    go_enter Tryz.func132, Tryz.ntmps132
    go_wp2_with fail
    go_ret
    exact ⟨rfl, HRD.out _ (HB.out.set 0 _) (gr_set _ _ _ _), gr_set _ _ _ _⟩
theorem le8_drop (x : Int) {k : Nat} (hk : k < 8) : (le8 x).drop k = byt x k :: (le8 x).drop (k + 1) := by
  have hl : k < (le8 x).length := by rw [le8_len]; exact hk
  rw [List.drop_eq_getElem_cons hl]
  simp [le8, bytL]
theorem pow256 (k : Nat) : (256 : Nat) ^ k = 2 ^ (8 * k) := by rw [Nat.pow_mul]
theorem word_or {x : Int} (hx : IsW x) {k : Nat} (hk : k < 8) : IntKind.u64.wrap (byt x k * 2 ^ (8 * (k : Int)).toNat) = byt x k * 256 ^ k ∧ bits .or .u64 (x % 256 ^ k) (byt x k * 256 ^ k) = x % 256 ^ (k + 1) := by
  obtain ⟨n, rfl⟩ := Int.eq_ofNat_of_zero_le hx.1
  have hn : n < 18446744073709551616 := by have := hx.2; omega
  have e0 : (8 * (k : Int)).toNat = 8 * k := by omega
  have hp : (256 : Nat) ^ k * 256 ≤ 18446744073709551616 := by
    have h1 : (256 : Nat) ^ (k + 1) ≤ 256 ^ 8 := Nat.pow_le_pow_right (by decide) (by omega)
    rw [Nat.pow_succ] at h1
    exact Nat.le_trans h1 (by decide)
  have eb : byt (n : Int) k = ((n / 256 ^ k % 256 : Nat) : Int) := by unfold byt; simp
  have em : ((n : Int) % 256 ^ k) = ((n % 256 ^ k : Nat) : Int) := by simp
  have em1 : ((n : Int) % 256 ^ (k + 1)) = ((n % 256 ^ (k + 1) : Nat) : Int) := by simp
  have ep : (2 : Int) ^ (8 * k) = ((256 ^ k : Nat) : Int) := by rw [pow256]; simp
  have ep2 : (256 : Int) ^ k = ((256 ^ k : Nat) : Int) := by simp
  have hb : n / 256 ^ k % 256 * 256 ^ k < 18446744073709551616 := by
    have h1 : n / 256 ^ k % 256 < 256 := Nat.mod_lt _ (by decide)
    have h2 : n / 256 ^ k % 256 * 256 ^ k ≤ 255 * 256 ^ k := Nat.mul_le_mul_right _ (by omega)
    have h3 : 0 < (256 : Nat) ^ k := Nat.pow_pos (by decide)
    omega
  constructor
  · rw [e0, eb, ep, ep2, ← Int.natCast_mul, IntKind.wrap_u64]
    omega
  · rw [eb, em, em1, ep2, ← Int.natCast_mul]
    have hm : n % 256 ^ k < 18446744073709551616 := by
      have h3 : 0 < (256 : Nat) ^ k := Nat.pow_pos (by decide)
      have := Nat.mod_lt n h3; omega
    rw [bits_or_u64_nat _ _ hm hb]
    congr 1
    have h4 : n % 256 ^ k < 2 ^ (8 * k) := by rw [← pow256]; exact Nat.mod_lt _ (Nat.pow_pos (by decide))
    rw [Nat.or_comm]
    have h5 := Nat.shiftLeft_add_eq_or_of_lt h4 (n / 256 ^ k % 256)
    rw [Nat.shiftLeft_eq, ← pow256] at h5
    rw [← h5, Nat.pow_succ, Nat.mod_mul, Nat.mul_comm (256 ^ k), Nat.add_comm]
theorem wrap_isB {x : Int} (h : isB x) : IntKind.u64.wrap x = x := by unfold isB at h; rw [IntKind.wrap_u64]; omega
set_option maxHeartbeats 4000000 in
set_option maxRecDepth 100000 in
theorem reader_word (br : Nat) (x : Int) (hx : IsW x) (l : List Int) (w : World) (hr : Rd w br (le8 x ++ l)) :
    Calls Tryz.prog 112 #[.pointer (some ⟨br, 0, none⟩)] w fun e w' => e = .returned (.int .u64 x) ∧ Rd w' br l ∧ w.grownBy w' (some br) := by
  have HR := Lib.hid hr; have HX := Lib.hid hx; clear hr hx
  go_enter Tryz.func112, Tryz.ntmps112
  go_wp2_with fail
  go_loopw [3, 5] (fun xr ir wr => ∃ k : Nat, k ≤ 8 ∧ ir = .int .i64 (k : Int) ∧ xr = .int .u64 (x % 256 ^ k) ∧ Rd wr br ((le8 x).drop k ++ l) ∧ w.grownBy wr (some br)) (fun _ i _ => 8 - (intOf i).toNat)
  case atStart => exact ⟨0, Nat.zero_le _, rfl, by simp [Int.emod_one], by simpa using HR.out, World.grownBy.refl _ _⟩
  case round =>
    obtain ⟨k, hk, rfl, rfl, hrd, hg⟩ := hrel
    have HRD := Lib.hid hrd; have HG := Lib.hid hg; clear hrd hg
    by_cases hlt : k < 8
    · have HRD2 := Lib.hid (show Rd wr br (byt x k :: ((le8 x).drop (k + 1) ++ l)) from by have := HRD.out; rw [le8_drop x hlt] at this; exact this)
      obtain ⟨s1, s2⟩ := word_or HX.out hlt
      have s3 := wrap_isB (byt_isB x k)
      have e2 : IntKind.i64.wrap (8 * (k : Int)) = 8 * (k : Int) := by rw [IntKind.wrap_i64]; omega
      have e3 : wrap64 (8 * (k : Int)) = 8 * (k : Int) := by rw [← IntWalk.i64_left]; exact e2
      generalize byt x k * 256 ^ k = q at *
      generalize hp : x % 256 ^ k = p at *
      generalize hp1 : x % 256 ^ (k + 1) = p1 at *
      have HP1 := Lib.hid hp1; clear hp hp1
      generalize byt x k = y at *
      clear HRD
      go_wp2_with fail
      refine (reader_byte br y _ _ HRD2.out).mono ?_
      rintro e w2 ⟨rfl, h2, g2⟩
      have HR2 := Lib.hid h2; have HG2 := Lib.hid (HG.out.trans g2); clear h2 g2
      go_wp2_with fail
      go_roundw
      case rel => exact ⟨k + 1, by omega, by go_num, by rw [HP1.out], HR2.out, HG2.out⟩
      case measure => simp [intOf]; omega
    · obtain rfl : k = 8 := by omega
      have hpx : x % 256 ^ 8 = x := by have := HX.out; unfold IsW at this; omega
      rw [hpx]
      have HR3 := Lib.hid (show Rd wr br l from by have := HRD.out; rw [List.drop_of_length_le (by rw [le8_len]; exact Nat.le_refl _)] at this; simpa using this)
      clear hpx
      go_wp2_with fail
      go_ret
      exact ⟨rfl, HR3.out, HG.out⟩
end Go.Proofs.YtjdiilkljgljkaaGreatDoor
namespace Go.Proofs.YtjdiilkljgljkaaGreatDoor
set_option linter.unusedVariables false
set_option linter.unusedSimpArgs false
open Go.RowKit Wd

theorem i64_lo {x : Int} (h : IsI x) : IntKind.i64.wrap (lo x) = x := by unfold IsI at h; unfold lo; rw [IntKind.wrap_i64]; omega
theorem by_keep {w w' : World} {b : Nat} {A : Option Addr} {c : Nat} {l : List Int} {cs : Array Value} {t : TypeId} (h : By w A c l) (hb : Bx w b cs t) (hn : ∀ u ∈ cs.toList, ∀ x, u ≠ .int .u8 x) (hg : w.grownBy w' (some b)) : By w' A c l :=
  ⟨h.cap, h.max, fun h0 => by
    obtain ⟨b', off, e, hlt, hc⟩ := h.at_ h0
    have hne : b' ≠ b := fun e2 => by
      subst e2
      have hx : l[0]? = some (l[0]'h0) := List.getElem?_eq_getElem h0
      have h1 := hc 0 _ hx
      unfold Bx at hb
      simp only [World.cell?, hb] at h1
      exact hn _ (by simpa using Array.mem_of_getElem? h1) _ rfl
    refine ⟨b', off, e, Nat.lt_of_lt_of_le hlt hg.size, fun i x hi => ?_⟩
    exact (World.cell?_of_block (w := w) (w' := w') (a := ⟨b', off + i, none⟩) (hg.block b' hlt (by simpa using hne))).trans (hc i x hi)⟩
theorem gr_new {w w' : World} {r : Option Nat} {b i : Nat} {v : Value} (h : w.grownBy w' r) (hb : w.heap.size ≤ b) : w.grownBy (w'.setCell ⟨b, i, none⟩ v) r :=
  ⟨h.os, h.tape, h.output, by have := h.size; simpa [World.setCell] using this, fun k hk hne => (Below.heap_setCell _ _ _ _ (by simp; omega)).trans (h.block k hk hne)⟩
theorem bx_gr {w w' : World} {br b : Nat} {cs : Array Value} {t : TypeId} (h : Bx w b cs t) (hne : b ≠ br) (hg : w.grownBy w' (some br)) : Bx w' b cs t := (hg.block b h.lt (by simpa using hne)).trans h
set_option maxHeartbeats 4000000 in
set_option maxRecDepth 100000 in
theorem reader_point (br : Nat) (x y : Int) (hx : IsI x) (hy : IsI y) (l : List Int) (w : World) (hr : Rd w br (ptB x y ++ l)) :
    Calls Tryz.prog 81 #[.pointer (some ⟨br, 0, none⟩)] w fun e w' => e = .returned (.agg #[.int .i64 x, .int .i64 y]) ∧ Rd w' br l ∧ w.grownBy w' (some br) := by
  have HR := Lib.hid hr; have HX := Lib.hid hx; have HY := Lib.hid hy; have HLT := Lib.hid hr.lt; clear hr hx hy
  go_enter Tryz.func81, Tryz.ntmps81
  go_wp2_with fail
  have HB := Lib.hid (Bx.new w #[.int .i64 0, .int .i64 0] 23)
  have HR1 := Lib.hid (show Rd (w.alloc (.cells #[.int .i64 0, .int .i64 0] 23)) br (le8 (lo x) ++ (le8 (lo y) ++ l)) from by have := HR.out.alloc (.cells #[.int .i64 0, .int .i64 0] 23); unfold ptB at this; rw [List.append_assoc] at this; exact this)
  have HG1 := Lib.hid (World.grownBy_alloc w (.cells #[.int .i64 0, .int .i64 0] 23) (some br))
  have HNE := Lib.hid (show w.heap.size ≠ br from by have := HLT.out; omega)
  generalize w.alloc (.cells #[.int .i64 0, .int .i64 0] 23) = w1 at *
  clear HR
  refine (reader_word br (lo x) (isW_lo _) _ _ HR1.out).mono ?_
  rintro e w2 ⟨rfl, h2, g2⟩
  have HR2 := Lib.hid h2; have HB2 := Lib.hid (bx_gr HB.out HNE.out g2); have HG2 := Lib.hid (HG1.out.trans g2); clear h2 g2 HR1 HB HG1
  have wi := i64_lo HX.out
  go_wp2_with fail
  clear wi
  refine (reader_word br (lo y) (isW_lo _) _ _ HR2.out).mono ?_
  rintro e w3 ⟨rfl, h3, g3⟩
  have HB3 := Lib.hid (bx_gr HB2.out HNE.out g3); have HR3 := Lib.hid h3; have HG3 := Lib.hid (HG2.out.trans g3); clear h3 g3 HR2 HB2 HG2
  have wi := i64_lo HY.out
  have c0 := HB3.out.cell 0 (v := .int .i64 0) rfl
  have c1 := HB3.out.cell 1 (v := .int .i64 0) rfl
  have z0 := HB3.out.free 0
  have z1 := HB3.out.free 1
  go_wp2_with fail
  clear wi c0 c1 z0 z1
  have HB4 := Lib.hid ((HB3.out.set 0 (.int .i64 x)).set 1 (.int .i64 y))
  have HR4 := Lib.hid (show Rd ((w3.setCell ⟨w.heap.size, 0, none⟩ (.int .i64 x)).setCell ⟨w.heap.size, 1, none⟩ (.int .i64 y)) br l from by
    obtain ⟨A, c, h1, h2⟩ := HR3.out
    exact ⟨A, c, (h1.other _ (fun e => HNE.out e.symm)).other _ (fun e => HNE.out e.symm), by_keep (by_keep h2 HB3.out (by simp) (gr_set _ _ _ _)) (HB3.out.set 0 _) (by simp) (gr_set _ _ _ _)⟩)
  have HG4 := Lib.hid (gr_new (i := 1) (v := .int .i64 y) (gr_new (i := 0) (v := .int .i64 x) HG3.out (Nat.le_refl w.heap.size)) (Nat.le_refl w.heap.size))
  clear HB3 HR3 HG3
  generalize (w3.setCell ⟨w.heap.size, 0, none⟩ (.int .i64 x)).setCell ⟨w.heap.size, 1, none⟩ (.int .i64 y) = w4 at *
  have q0 := HB4.out.cell 0 (v := .int .i64 x) rfl
  have q1 := HB4.out.cell 1 (v := .int .i64 y) rfl
  refine bodyPost_ret (v := .agg #[.int .i64 x, .int .i64 y]) (by simp [results, Tryz.results81, go_sem, q0, q1]) rfl ⟨rfl, HR4.out, HG4.out⟩
end Go.Proofs.YtjdiilkljgljkaaGreatDoor
namespace Go.Proofs.YtjdiilkljgljkaaGreatDoor
set_option linter.unusedVariables false
set_option linter.unusedSimpArgs false
open Go.RowKit Wd

theorem below_drewN {w w' : World} (h : Below w.heap.size w w') {n : Nat} : Below w.heap.size w (w'.drewN n) := ⟨h.os, h.tape, h.output, h.size, h.block⟩
def hdV (op v : Int) (A : Option Addr) (n c : Nat) (p : Int) : Value := .agg #[.int .i64 op, .int .i64 v, .slice A n c, .int .i64 p]
set_option maxHeartbeats 4000000 in
set_option maxRecDepth 100000 in
theorem header_Parse12 (A : Option Addr) (c : Nat) (op : Int) (ho : op = 1 ∨ op = 2) (l : List Int) (w : World) (hb : By w A c (op :: l)) :
    Calls Tryz.prog 78 #[.slice A (l.length + 1) c] w fun e w' => e = .returned (.tuple #[.agg #[.int .i64 op, .int .i64 0, .slice none 0 0, .int .i64 0], .int .i64 1, .int .i64 0]) ∧ Below w.heap.size w w' := by
  obtain ⟨b, off, rfl, hlt, hc⟩ := hb.at_ (by simp)
  have c1 := hc 0 op rfl
  rw [Nat.add_zero] at c1
  have hmx := hb.cap; have hm2 := hb.max
  simp only [List.length_cons] at hmx
  unfold maxLen at hm2
  clear hb hc
  generalize l.length = n at *
  obtain ⟨o, h⟩ : ∃ o, o = op := ⟨_, rfl⟩
  rw [← h]
  have HO := Lib.hid h
  rcases ho with e | e <;> (rw [e] at c1 h; clear HO; have HO := Lib.hid h; clear h e)
  all_goals
    go_enter Tryz.func78, Tryz.ntmps78
    go_wp2_with fail
    refine wp_scope_straight ?_
    go_wp2_with fail
    rw [Exit.noGoto_ret]
    refine bodyPost_ret (v := .tuple #[.agg #[.int .i64 o, .int .i64 0, .slice none 0 0, .int .i64 0], .int .i64 1, .int .i64 0]) (by simp [results, Tryz.results78, go_sem, HO.out]) rfl ⟨rfl, ?_⟩
    repeat (first | exact below_rf | (refine below_st ?_ ?_; (focus (first | (simp; done) | omega | (simp <;> omega)))) | refine below_al ?_)
set_option maxHeartbeats 4000000 in
set_option maxRecDepth 100000 in
theorem index_nil (F : Value) (n c : Nat) (w : World) :
    Calls Tryz.prog 131 #[.slice none 0 0, F] w fun e w' => e = .returned (.int .i64 (-1)) ∧ Below w.heap.size w w' := by
  go_enter Tryz.func131, Tryz.ntmps131
  go_wp2_with fail
  refine wp_loop_rounds 1 ?_
  rw [rounds_succ]
  go_wp2_with fail
  go_ret
  exact ⟨rfl, Below.refl _ _⟩
set_option maxHeartbeats 4000000 in
set_option maxRecDepth 100000 in
theorem contains_nil (F : Value) (w : World) :
    Calls Tryz.prog 109 #[.slice none 0 0, F] w fun e w' => e = .returned (.bool false) ∧ Below w.heap.size w w' := by
  go_enter Tryz.func109, Tryz.ntmps109
  go_wp2_with fail
  refine (index_nil F 0 0 _).mono ?_
  rintro e w' ⟨rfl, B⟩
  have HB := Lib.hid B; clear B
  go_wp2_with fail
  go_ret
  exact ⟨rfl, HB.out⟩
set_option maxHeartbeats 4000000 in
set_option maxRecDepth 100000 in
theorem header_check12 (op : Int) (ho : op = 1 ∨ op = 2) (w : World) :
    Calls Tryz.prog 123 #[.agg #[.int .i64 op, .int .i64 0, .slice none 0 0, .int .i64 0]] w fun e w' => e = .returned (.int .i64 0) ∧ Below w.heap.size w w' := by
  obtain ⟨o, rfl⟩ : ∃ o, o = op := ⟨_, rfl⟩
  rcases ho with h | h
  all_goals
    subst h
    go_enter Tryz.func123, Tryz.ntmps123
    go_wp2_with fail
    go_quiet (fail)
    go_wp2_with fail
    refine (contains_nil _ _).mono ?_
    rintro e w' ⟨rfl, B⟩
    have HB := Lib.hid (below_tr (below_drewN (below_al below_rf)) B); clear B
    go_wp2_with fail
    go_ret
    exact ⟨rfl, HB.out⟩
end Go.Proofs.YtjdiilkljgljkaaGreatDoor
namespace Go.Proofs.YtjdiilkljgljkaaGreatDoor
set_option linter.unusedVariables false
set_option linter.unusedSimpArgs false
open Go.RowKit Wd

theorem add64 (x y c : Int) (hx : IsW x) (hy : IsW y) (h0 : 0 ≤ c) (h1 : c ≤ 1) (w : World) :
    (callFunc 164 #[.int .u64 x, .int .u64 y, .int .u64 c]).run Tryz.prog w = .ok (.value (.tuple #[.int .u64 (lo (x + y + c)), .int .u64 ((x + y + c) / 18446744073709551616)])) w := by
  unfold IsW at hx hy
  rw [run_callFunc_extern Tryz.func164 (by kernel_rfl) (by kernel_rfl) (by kernel_rfl) (e := add64Entry) (by kernel_rfl), run_add64 x y c hx.1 hy.1 h0 h1]
  rfl
theorem sub64 (x y c : Int) (hx : IsW x) (hy : IsW y) (h0 : 0 ≤ c) (h1 : c ≤ 1) (w : World) :
    (callFunc 152 #[.int .u64 x, .int .u64 y, .int .u64 c]).run Tryz.prog w = .ok (.value (.tuple #[.int .u64 (lo (x - y - c)), .int .u64 (bor x y c)])) w := by
  unfold IsW at hx hy
  obtain ⟨n, rfl⟩ := Int.eq_ofNat_of_zero_le hx.1
  obtain ⟨m, rfl⟩ := Int.eq_ofNat_of_zero_le hy.1
  obtain ⟨k, rfl⟩ := Int.eq_ofNat_of_zero_le h0
  rw [run_callFunc_extern Tryz.func152 (by kernel_rfl) (by kernel_rfl) (by kernel_rfl) (e := sub64Entry) (by kernel_rfl), run_sub64 n m k (by omega)]
  have e1 : (((n + 18446744073709551616 - m - k) % 18446744073709551616 : Nat) : Int) = lo ((n : Int) - m - k) := by unfold lo; omega
  have e2 : ((if n < m + k then 1 else 0 : Nat) : Int) = bor n m k := by unfold bor; split <;> split <;> omega
  rw [e1, e2]
  rfl

theorem word_Add (a b c : Int) (ha : IsW a) (hb : IsW b) (hc : IsW c) (w : World) :
    Calls Tryz.prog 174 #[.int .u64 a, .int .u64 b, .int .u64 c] w fun e w' => e = .returned (.tuple #[.int .u64 (lo (a + b + c % 2)), .int .u64 ((a + b + c % 2) / 18446744073709551616)]) ∧ w = w' := by
  have h := add64 a b (bits .and .u64 c 1) ha hb (by rw [and_one hc]; omega) (by rw [and_one hc]; omega)
  rw [← and_one hc]
  go_enter Tryz.func174, Tryz.ntmps174
  go_wp2
  go_ret2
  exact ⟨rfl, rfl⟩

theorem word_Sub (a b c : Int) (ha : IsW a) (hb : IsW b) (hc : IsW c) (w : World) :
    Calls Tryz.prog 128 #[.int .u64 a, .int .u64 b, .int .u64 c] w fun e w' => e = .returned (.tuple #[.int .u64 (lo (a - b - c % 2)), .int .u64 (bor a b (c % 2))]) ∧ w = w' := by
  have h := sub64 a b (bits .and .u64 c 1) ha hb (by rw [and_one hc]; omega) (by rw [and_one hc]; omega)
  rw [← and_one hc]
  go_enter Tryz.func128, Tryz.ntmps128
  go_wp2
  go_ret2
  exact ⟨rfl, rfl⟩

theorem word_Add0 (a b : Int) (ha : IsW a) (hb : IsW b) (w : World) :
    Calls Tryz.prog 174 #[.int .u64 a, .int .u64 b, .int .u64 0] w fun e w' => e = .returned (.tuple #[.int .u64 (lo (a + b)), .int .u64 ((a + b) / 18446744073709551616)]) ∧ w = w' := by
  have h := word_Add a b 0 ha hb (by unfold IsW; omega) w
  rw [show a + b + 0 % 2 = a + b from by omega] at h
  exact h
theorem word_AddC (a c : Int) (ha : IsW a) (hc : 0 ≤ c ∧ c ≤ 1) (w : World) :
    Calls Tryz.prog 174 #[.int .u64 a, .int .u64 0, .int .u64 c] w fun e w' => e = .returned (.tuple #[.int .u64 (lo (a + c)), .int .u64 ((a + c) / 18446744073709551616)]) ∧ w = w' := by
  have h := word_Add a 0 c ha (by unfold IsW; omega) (by unfold IsW; omega) w
  rw [show a + 0 + c % 2 = a + c from by omega] at h
  exact h

namespace Mul64
theorem maskN (a : Nat) (ha : a < 18446744073709551616) : bits .and .u64 (a : Int) 4294967295 = ((a % 4294967296 : Nat) : Int) := by
  have h := bits_and_u64_nat a 4294967295 ha (by omega)
  have e : a &&& 4294967295 = a % 4294967296 := Nat.and_two_pow_sub_one_eq_mod a 32
  rw [e] at h
  exact h
theorem divN (a : Nat) : (a : Int) / 4294967296 = ((a / 4294967296 : Nat) : Int) := by omega
theorem mulN (a b : Nat) : (a : Int) * (b : Int) = ((a * b : Nat) : Int) := (Int.natCast_mul a b).symm
theorem addN (a b : Nat) : (a : Int) + (b : Int) = ((a + b : Nat) : Int) := (Int.natCast_add a b).symm
theorem wrapN (a : Nat) (ha : a < 18446744073709551616) : IntKind.u64.wrap (a : Int) = (a : Int) := by rw [IntKind.wrap_u64]; omega
theorem wrapM (a : Nat) : IntKind.u64.wrap (a : Int) = ((a % 18446744073709551616 : Nat) : Int) := by rw [IntKind.wrap_u64]; omega
end Mul64

set_option maxHeartbeats 1000000 in
theorem bits_Mul64_nat (x y : Nat) (hx : x < 18446744073709551616) (hy : y < 18446744073709551616) (w : World) :
    Calls Tryz.prog 163 #[.int .u64 x, .int .u64 y] w fun e w' => e = .returned (.tuple #[.int .u64 ((x * y / 18446744073709551616 : Nat) : Int), .int .u64 ((x * y % 18446744073709551616 : Nat) : Int)]) ∧ w = w' := by
  obtain ⟨bd, bt, bw, hhi⟩ := Lib.mul64_hi x y hx hy
  have ba := Lib.half_mul_le (a := x / 4294967296) (b := y / 4294967296) (by omega) (by omega)
  have bb := Lib.half_mul_le (a := x / 4294967296) (b := y % 4294967296) (by omega) (by omega)
  have bc := Lib.half_mul_le (a := x % 4294967296) (b := y / 4294967296) (by omega) (by omega)
  have ba' : x / 4294967296 * (y / 4294967296) < 18446744073709551616 := by omega
  have bb' : x / 4294967296 * (y % 4294967296) < 18446744073709551616 := by omega
  have bc' : x % 4294967296 * (y / 4294967296) < 18446744073709551616 := by omega
  have bh1 : x / 4294967296 * (y / 4294967296) + (x / 4294967296 * (y % 4294967296) + x % 4294967296 * (y % 4294967296) / 4294967296) / 4294967296 < 18446744073709551616 := by omega
  have bh : x / 4294967296 * (y / 4294967296) + (x / 4294967296 * (y % 4294967296) + x % 4294967296 * (y % 4294967296) / 4294967296) / 4294967296 + ((x / 4294967296 * (y % 4294967296) + x % 4294967296 * (y % 4294967296) / 4294967296) % 4294967296 + x % 4294967296 * (y / 4294967296)) / 4294967296 < 18446744073709551616 := by omega
  go_enter Tryz.func163, Tryz.ntmps163
  go_wp2
  simp only [Mul64.maskN x hx, Mul64.maskN y hy, Mul64.divN, Mul64.mulN, Mul64.addN, Mul64.wrapN _ bd, Mul64.wrapN _ bb', Mul64.wrapN _ bt, Mul64.maskN _ bt, Mul64.wrapN _ bc', Mul64.wrapN _ bw, Mul64.wrapN _ ba', Mul64.wrapN _ bh1, Mul64.wrapN _ bh, Mul64.wrapM (x * y)]
  rw [hhi]
  go_ret2
  exact ⟨rfl, rfl⟩

theorem bits_Mul64 (a b : Int) (ha : IsW a) (hb : IsW b) (w : World) :
    Calls Tryz.prog 163 #[.int .u64 a, .int .u64 b] w fun e w' => e = .returned (.tuple #[.int .u64 (hi (a * b)), .int .u64 (lo (a * b))]) ∧ w = w' := by
  have hm := isW_lt_mul ha hb
  unfold IsW at ha hb
  obtain ⟨n, rfl⟩ := Int.eq_ofNat_of_zero_le ha.1
  obtain ⟨m, rfl⟩ := Int.eq_ofNat_of_zero_le hb.1
  have e1 : hi ((n : Int) * m) = ((n * m / 18446744073709551616 : Nat) : Int) := by rw [← Int.natCast_mul] at *; unfold hi; omega
  have e2 : lo ((n : Int) * m) = ((n * m % 18446744073709551616 : Nat) : Int) := by rw [← Int.natCast_mul]; unfold lo; omega
  rw [e1, e2]
  exact bits_Mul64_nat n m (by omega) (by omega) w


set_option maxHeartbeats 400000 in
theorem word_MulAdd (a b c d : Int) (ha : IsW a) (hb : IsW b) (hc : IsW c) (hd : IsW d) (w : World) :
    Calls Tryz.prog 151 #[.int .u64 a, .int .u64 b, .int .u64 c, .int .u64 d] w fun e w' => e = .returned (.tuple #[.int .u64 (hi (a * b + c + d)), .int .u64 (lo (a * b + c + d))]) ∧ w = w' := by
  have hp := isW_lt_mul ha hb
  have hst := mulAdd_steps hp hc hd
  rw [← hst.1, ← hst.2]
  clear hst
  generalize hq : a * b = p at *
  have Hq := Lib.hid hq; clear hq
  have b1 := isW_lo p
  have b2 := isW_hi p
  have b3 := isW_lo (lo p + c)
  have b4 : 0 ≤ (lo p + c) / 18446744073709551616 ∧ (lo p + c) / 18446744073709551616 ≤ 1 := by unfold IsW at *; omega
  have b5 := isW_lo (hi p + (lo p + c) / 18446744073709551616)
  have b6 : 0 ≤ (lo (lo p + c) + d) / 18446744073709551616 ∧ (lo (lo p + c) + d) / 18446744073709551616 ≤ 1 := by unfold IsW at *; omega
  have z0 : IsW 0 := by unfold IsW; omega
  have h1 := add64 (lo p) c 0 b1 hc (by omega) (by omega)
  have h2 := add64 (hi p) 0 ((lo p + c) / 18446744073709551616) b2 z0 b4.1 b4.2
  have h3 := add64 (lo (lo p + c)) d 0 b3 hd (by omega) (by omega)
  have h4 := add64 (lo (hi p + (lo p + c) / 18446744073709551616)) 0 ((lo (lo p + c) + d) / 18446744073709551616) b5 z0 b6.1 b6.2
  simp only [Int.add_zero] at h1 h2 h3 h4
  clear b1 b2 b3 b4 b5 b6 z0 hp
  go_enter Tryz.func151, Tryz.ntmps151
  go_wp2_with (go_at_call 163; refine (bits_Mul64 _ _ ha hb _).mono ?_; rintro e w' ⟨rfl, rfl⟩; rw [Hq.out])
  go_ret2
  exact ⟨rfl, rfl⟩

theorem mask_Of (c : Int) (hc : IsW c) (w : World) :
    Calls Tryz.prog 101 #[.int .u64 c] w fun e w' => e = .returned (.int .u64 (msk (decide (c % 2 = 1)))) ∧ w = w' := by
  have h := msk_of hc
  rw [← h, ← wrapU]
  clear h
  go_enter Tryz.func101, Tryz.ntmps101
  go_wp2
  go_ret
  exact ⟨rfl, rfl⟩

theorem word_Fill (a : Int) (ha : IsW a) (w : World) :
    Calls Tryz.prog 72 #[.int .u64 a] w fun e w' => e = .returned (.int .u64 (msk (decide (9223372036854775808 ≤ a)))) ∧ w = w' := by
  have h := shr63 ha
  have e1 : (decide (9223372036854775808 ≤ a)) = decide ((a / 9223372036854775808) % 2 = 1) := by rw [decide_eq_decide]; exact h.2.2.symm
  rw [e1]
  have h1 := h.1
  clear h e1
  go_enter Tryz.func72, Tryz.ntmps72
  go_wp2_with (go_at_call 101; refine (mask_Of _ h1 _).mono ?_; rintro e w' ⟨rfl, rfl⟩)
  go_ret
  exact ⟨rfl, rfl⟩
end Go.Proofs.YtjdiilkljgljkaaGreatDoor
namespace Go.Proofs.YtjdiilkljgljkaaGreatDoor
set_option linter.unusedVariables false
set_option linter.unusedSimpArgs false
open Go.RowKit Wd

def isN (n : Nat) : Bool := decide (1 ≤ n ∧ n ≤ 8)
theorem isN_true {n : Nat} (h : isN n = true) : 1 ≤ n ∧ n ≤ 8 := by simpa [isN] using h
theorem isN_false {n : Nat} (h : isN n = false) : n < 1 ∨ 8 < n := by simp [isN] at h; omega

theorem limb_is1 (bb : Nat) (A : Option Addr) (n c : Nat) (hn : n ≤ maxLen) (w : World) (h0 : w.cell? ⟨bb, 0, none⟩ = some (.slice A n c)) :
    Calls Tryz.prog 70 #[.slice (some ⟨bb, 0, none⟩) 1 1] w fun e w' => e = .returned (.bool (isN n)) ∧ w = w' := by
  unfold maxLen at hn
  rcases (by omega : n < 1 ∨ (1 ≤ n ∧ n ≤ 8) ∨ 8 < n) with h | h | h
  · rw [show isN n = false from by simp [isN]; omega]
    go_enter Tryz.func70, Tryz.ntmps70
    go_wp2
    refine wp_loop_rounds 2 ?_
    rw [rounds_succ]
    go_wp2
    go_ret
    exact ⟨rfl, rfl⟩
  · rw [show isN n = true from by simp [isN]; omega]
    go_enter Tryz.func70, Tryz.ntmps70
    go_wp2
    refine wp_loop_rounds 2 ?_
    rw [rounds_succ]
    go_wp2
    rw [rounds_succ]
    go_wp2
    go_ret
    exact ⟨rfl, rfl⟩
  · rw [show isN n = false from by simp [isN]; omega]
    go_enter Tryz.func70, Tryz.ntmps70
    go_wp2
    refine wp_loop_rounds 2 ?_
    rw [rounds_succ]
    go_wp2
    go_ret
    exact ⟨rfl, rfl⟩

set_option maxHeartbeats 400000 in
theorem limb_is2 (bb : Nat) (A A' : Option Addr) (n c m c' : Nat) (hn : n ≤ maxLen) (hm : m ≤ maxLen) (w : World) (h0 : w.cell? ⟨bb, 0, none⟩ = some (.slice A n c)) (h1 : w.cell? ⟨bb, 1, none⟩ = some (.slice A' m c')) :
    Calls Tryz.prog 70 #[.slice (some ⟨bb, 0, none⟩) 2 2] w fun e w' => e = .returned (.bool (isN n && isN m)) ∧ w = w' := by
  unfold maxLen at hn hm
  rcases (by omega : n < 1 ∨ 8 < n ∨ ((1 ≤ n ∧ n ≤ 8) ∧ m < 1) ∨ ((1 ≤ n ∧ n ≤ 8) ∧ 8 < m) ∨ ((1 ≤ n ∧ n ≤ 8) ∧ 1 ≤ m ∧ m ≤ 8)) with h | h | h | h | h
  · rw [show (isN n && isN m) = false from by simp [isN]; omega]
    go_enter Tryz.func70, Tryz.ntmps70
    go_wp2
    refine wp_loop_rounds 3 ?_
    rw [rounds_succ]
    go_wp2
    go_ret
    exact ⟨rfl, rfl⟩
  · rw [show (isN n && isN m) = false from by simp [isN]; omega]
    go_enter Tryz.func70, Tryz.ntmps70
    go_wp2
    refine wp_loop_rounds 3 ?_
    rw [rounds_succ]
    go_wp2
    go_ret
    exact ⟨rfl, rfl⟩
  · rw [show (isN n && isN m) = false from by simp [isN]; omega]
    go_enter Tryz.func70, Tryz.ntmps70
    go_wp2
    refine wp_loop_rounds 3 ?_
    rw [rounds_succ]
    go_wp2
    rw [rounds_succ]
    go_wp2
    go_ret
    exact ⟨rfl, rfl⟩
  · rw [show (isN n && isN m) = false from by simp [isN]; omega]
    go_enter Tryz.func70, Tryz.ntmps70
    go_wp2
    refine wp_loop_rounds 3 ?_
    rw [rounds_succ]
    go_wp2
    rw [rounds_succ]
    go_wp2
    go_ret
    exact ⟨rfl, rfl⟩
  · rw [show (isN n && isN m) = true from by simp [isN]; omega]
    go_enter Tryz.func70, Tryz.ntmps70
    go_wp2
    refine wp_loop_rounds 3 ?_
    rw [rounds_succ]
    go_wp2
    rw [rounds_succ]
    go_wp2
    rw [rounds_succ]
    go_wp2
    go_ret
    exact ⟨rfl, rfl⟩
end Go.Proofs.YtjdiilkljgljkaaGreatDoor
namespace Go.Proofs.YtjdiilkljgljkaaGreatDoor
set_option linter.unusedVariables false
set_option linter.unusedSimpArgs false
open Go.RowKit Wd

theorem ret1 {k : IntKind} {a b : Int} (h : a = b) : Ending.returned (.int k a) = Ending.returned (.int k b) := by rw [h]

theorem mask_Zero (a : Int) (ha : IsW a) (w : World) :
    Calls Tryz.prog 73 #[.int .u64 a] w fun e w' => e = .returned (.int .u64 (msk (decide (a = 0)))) ∧ w = w' := by
  have h1 := zero_w ha
  have hor := or_w ha (isW_lo (-a))
  rw [Int.zero_sub] at h1
  have hn : IsW ((18446744073709551615 - bits .or .u64 a (lo (-a))) / 9223372036854775808) := by unfold IsW at *; omega
  have e : msk (decide (a = 0)) = msk (decide ((18446744073709551615 - bits .or .u64 a (lo (-a))) / 9223372036854775808 % 2 = 1)) := by
    rw [h1]; by_cases h : a = 0 <;> simp [h]
  rw [e]
  have HN := Lib.hid hn; have HO := Lib.hid hor
  clear h1 hor hn e
  have hsg : IntKind.u64.signed = false := rfl
  go_enter Tryz.func73, Tryz.ntmps73
  go_wp2_with fail
  simp only [wrapU]
  rw [not_w HO.out]
  refine (mask_Of _ HN.out _).mono ?_
  rintro e w' ⟨rfl, rfl⟩
  go_wp2_with fail
  go_ret
  exact ⟨rfl, rfl⟩

theorem mask_Select (m : Bool) (a b : Int) (ha : IsW a) (hb : IsW b) (w : World) :
    Calls Tryz.prog 100 #[.int .u64 (msk m), .int .u64 a, .int .u64 b] w fun e w' => e = .returned (.int .u64 (selI m a b)) ∧ w = w' := by
  rw [← select_wI m ha hb]
  go_enter Tryz.func100, Tryz.ntmps100
  go_wp2
  go_ret
  exact ⟨rfl, rfl⟩

/-- the table of package mask -/
def TabM (w : World) : Prop := w.cell? ⟨0, 0, none⟩ = some (.int .u64 9223372036854775808) ∧ w.cell? ⟨0, 1, none⟩ = some (.int .u64 18446744073709551615)
theorem lt_of_cell {w : World} {b o : Nat} {v : Value} (h : w.cell? ⟨b, o, none⟩ = some v) : b < w.heap.size := by
  rcases Nat.lt_or_ge b w.heap.size with h1 | h1
  · exact h1
  · simp [World.cell?, Array.getElem?_eq_none h1] at h
theorem TabM.below {w w' : World} {B : Nat} (h : TabM w) (hb : Below B w w') (hB : w.heap.size ≤ B) : TabM w' := by
  have hlt := lt_of_cell h.1
  have hB' : 0 < B := by omega
  exact ⟨(hb.cell (p := ⟨0, 0, none⟩) hB').trans h.1, (hb.cell (p := ⟨0, 1, none⟩) hB').trans h.2⟩

theorem calls_flip {P : Program} {f : FuncId} {args : Array Value} {w : World} {v : Value} (h : Calls P f args w fun e w' => e = .returned v ∧ w = w') : Calls P f args w fun e w' => e = .returned v ∧ w' = w :=
  h.mono fun _ _ ⟨he, hw⟩ => ⟨he, hw.symm⟩
theorem mask_OfM (b : Bool) (w : World) : Calls Tryz.prog 101 #[.int .u64 (msk b)] w fun e w' => e = .returned (.int .u64 (msk b)) ∧ w' = w := by
  have h := mask_Of (msk b) (isW_msk b) w
  rw [show decide (msk b % 2 = 1) = b from by cases b <;> rfl] at h
  exact calls_flip h
/-- -1, 0 or 1 -/
def sgnM (neg zero : Bool) : Int := if neg then -1 else if zero then 0 else 1
theorem mask_Sign (neg zero : Bool) (w : World) (hT : TabM w) :
    Calls Tryz.prog 71 #[.int .u64 (msk neg), .int .u64 (msk zero)] w fun e w' => e = .returned (.int .i64 (sgnM neg zero)) ∧ ∃ n, w' = w.drewN n := by
  have c1 := hT.2
  have e1 : bits .and .u64 (bits .xor .u64 IntKind.u64.max (msk zero)) 1 = if zero then 0 else 1 := by cases zero <;> rfl
  have e2 : wrap64 (selI neg 18446744073709551615 (if zero then 0 else 1)) = sgnM neg zero := by rw [← IntWalk.i64_left]; cases neg <;> cases zero <;> rfl
  have e3 : IsW (if zero then 0 else 1) := by cases zero <;> (unfold IsW; decide)
  rw [← e2]
  rw [← e1] at e3 ⊢
  have hlt : 0 < w.heap.size := lt_of_cell hT.1
  have hsg : IntKind.u64.signed = false := rfl
  have E3 := Lib.hid e3
  clear e1 e2 e3 hT
  go_enter Tryz.func71, Tryz.ntmps71
  go_wp2_with fail
  go_quiet ((first | (go_at_call 101; exact Calls.quiet_of_same (mask_OfM _ _)) | (go_at_call 100; exact Calls.quiet_of_same (calls_flip (mask_Select neg _ _ (by unfold IsW; decide) E3.out _)))))
  go_wp2_with fail
  go_ret
  exact ⟨rfl, nq, rfl⟩
end Go.Proofs.YtjdiilkljgljkaaGreatDoor
namespace Go.Proofs.YtjdiilkljgljkaaGreatDoor
set_option linter.unusedVariables false
set_option linter.unusedSimpArgs false
open Go.RowKit Wd

/-- the package variable header.fixed -/
structure TabF (w : World) : Prop where
  c0 : w.cell? ⟨1, 0, none⟩ = some (.int .i64 0)
  c1 : w.cell? ⟨1, 1, none⟩ = some (.int .i64 3)
  c2 : w.cell? ⟨1, 2, none⟩ = some (.int .i64 4)
  c3 : w.cell? ⟨1, 3, none⟩ = some (.int .i64 1)
  c4 : w.cell? ⟨1, 4, none⟩ = some (.int .i64 1)
  c5 : w.cell? ⟨1, 5, none⟩ = some (.int .i64 0)
theorem TabF.below {w w' : World} {B : Nat} (h : TabF w) (hb : Below B w w') (hB : w.heap.size ≤ B) : TabF w' := by
  have hlt := block_lt_of_cell h.c0
  have k : ∀ i, w'.cell? ⟨1, i, none⟩ = w.cell? ⟨1, i, none⟩ := fun i => hb.cell (p := ⟨1, i, none⟩) (by show 1 < B; exact Nat.lt_of_lt_of_le hlt hB)
  exact ⟨(k 0).trans h.c0, (k 1).trans h.c1, (k 2).trans h.c2, (k 3).trans h.c3, (k 4).trans h.c4, (k 5).trans h.c5⟩
theorem TabF.alloc {w : World} (h : TabF w) (o : Obj) : TabF (w.alloc o) := h.below ((Below.refl w.heap.size w).alloc (Nat.le_refl _) o) (Nat.le_refl _)
theorem TabF.drew {w : World} (h : TabF w) : TabF w.drew := h.below (Below.refl w.heap.size w).drew (Nat.le_refl _)
/-- the payload's length at an operation without regions -/
def pay12 (op : Int) : Int := if op = 1 then 48 else 64
set_option maxHeartbeats 4000000 in
set_option maxRecDepth 100000 in
theorem header_Payload12 (op : Int) (ho : op = 1 ∨ op = 2) (w : World) (hT : TabF w) :
    Calls Tryz.prog 108 #[.agg #[.int .i64 op, .int .i64 0, .slice none 0 0, .int .i64 0]] w fun e w' => e = .returned (.int .i64 (pay12 op)) ∧ Below w.heap.size w w' := by
  have HT := Lib.hid hT; clear hT
  rcases ho with rfl | rfl
  · go_enter Tryz.func108, Tryz.ntmps108
    go_wp2_with fail
    have HX := Lib.hid (Bx.new w #[.int .i64 1, .int .i64 0, .slice none 0 0, .int .i64 0] 28)
    have HT1 := Lib.hid (HT.out.alloc (.cells #[.int .i64 1, .int .i64 0, .slice none 0 0, .int .i64 0] 28))
    have HB1 := Lib.hid (show Below w.heap.size w (w.alloc (.cells #[.int .i64 1, .int .i64 0, .slice none 0 0, .int .i64 0] 28)) from below_al below_rf)
    generalize w.alloc (.cells #[.int .i64 1, .int .i64 0, .slice none 0 0, .int .i64 0] 28) = w1 at *
    refine (header_check12 _ (by decide) _).mono ?_
    rintro e w2 ⟨rfl, B⟩
    have HX2 := Lib.hid (HX.out.below B (Nat.le_refl _)); have HT2 := Lib.hid (HT1.out.below B (Nat.le_refl _)); have HB2 := Lib.hid (below_tr HB1.out B)
    clear B HX HT1 HB1 HT
    have c0 := HX2.out.cell 0 (v := .int .i64 1) rfl
    have c1 := HX2.out.cell 1 (v := .int .i64 0) rfl
    have c2 := HX2.out.cell 2 (v := .slice none 0 0) rfl
    have c3 := HX2.out.cell 3 (v := .int .i64 0) rfl
    have t1 := HT2.out.c1
    have t2 := HT2.out.c2
    go_wp2_with fail
    go_quiet (fail)
    go_wp2_with fail
    refine wp_loop_rounds 1 ?_
    rw [rounds_succ]
    go_wp2_with fail
    go_ret
    exact ⟨rfl, below_drewN HB2.out⟩
  · go_enter Tryz.func108, Tryz.ntmps108
    go_wp2_with fail
    have HX := Lib.hid (Bx.new w #[.int .i64 2, .int .i64 0, .slice none 0 0, .int .i64 0] 28)
    have HT1 := Lib.hid (HT.out.alloc (.cells #[.int .i64 2, .int .i64 0, .slice none 0 0, .int .i64 0] 28))
    have HB1 := Lib.hid (show Below w.heap.size w (w.alloc (.cells #[.int .i64 2, .int .i64 0, .slice none 0 0, .int .i64 0] 28)) from below_al below_rf)
    generalize w.alloc (.cells #[.int .i64 2, .int .i64 0, .slice none 0 0, .int .i64 0] 28) = w1 at *
    refine (header_check12 _ (by decide) _).mono ?_
    rintro e w2 ⟨rfl, B⟩
    have HX2 := Lib.hid (HX.out.below B (Nat.le_refl _)); have HT2 := Lib.hid (HT1.out.below B (Nat.le_refl _)); have HB2 := Lib.hid (below_tr HB1.out B)
    clear B HX HT1 HB1 HT
    have c0 := HX2.out.cell 0 (v := .int .i64 2) rfl
    have c1 := HX2.out.cell 1 (v := .int .i64 0) rfl
    have c2 := HX2.out.cell 2 (v := .slice none 0 0) rfl
    have c3 := HX2.out.cell 3 (v := .int .i64 0) rfl
    have t1 := HT2.out.c1
    have t2 := HT2.out.c2
    go_wp2_with fail
    go_quiet (fail)
    go_wp2_with fail
    refine wp_loop_rounds 1 ?_
    rw [rounds_succ]
    go_wp2_with fail
    go_ret
    exact ⟨rfl, below_drewN HB2.out⟩
end Go.Proofs.YtjdiilkljgljkaaGreatDoor
namespace Go.Proofs.YtjdiilkljgljkaaGreatDoor
set_option linter.unusedVariables false
set_option linter.unusedSimpArgs false
open Go.RowKit Wd

set_option maxHeartbeats 4000000 in
set_option maxRecDepth 100000 in
theorem header_Classify12 (A : Option Addr) (c : Nat) (op : Int) (ho : op = 1 ∨ op = 2) (l : List Int) (w : World) (hT : TabF w) (hb : By w A c (op :: l)) (hl : (l.length : Int) = pay12 op) :
    Calls Tryz.prog 77 #[.slice A (l.length + 1) c] w fun e w' => e = .returned (.int .i64 0) ∧ Below w.heap.size w w' := by
  have HT := Lib.hid hT; have HB := Lib.hid hb; have HL := Lib.hid hl; clear hT hb
  have hp : pay12 1 = 48 := rfl
  have hp2 : pay12 2 = 64 := rfl
  have HP := Lib.hid hp; have HP2 := Lib.hid hp2; clear hp hp2 hl
  have hmx := HB.out.cap; have hm2 := HB.out.max
  simp only [List.length_cons] at hmx
  unfold maxLen at hm2
  rcases ho with rfl | rfl
  · go_enter Tryz.func77, Tryz.ntmps77
    go_wp2_with fail
    refine (header_Parse12 A c 1 (by decide) l _ HB.out).mono ?_
    rintro e w1 ⟨rfl, B⟩
    have HT1 := Lib.hid (HT.out.below B (Nat.le_refl _)); have HB1 := Lib.hid B; clear B HT
    go_wp2_with fail
    have HX2 := Lib.hid (Bx.new w1 #[.int .i64 1, .int .i64 0, .slice none 0 0, .int .i64 0] 28)
    have HT2 := Lib.hid (HT1.out.alloc (.cells #[.int .i64 1, .int .i64 0, .slice none 0 0, .int .i64 0] 28))
    have HB2 := Lib.hid (HB1.out.alloc HB1.out.size (.cells #[.int .i64 1, .int .i64 0, .slice none 0 0, .int .i64 0] 28))
    generalize w1.alloc (.cells #[.int .i64 1, .int .i64 0, .slice none 0 0, .int .i64 0] 28) = w2 at *
    clear HT1 HB1
    have c0 := HX2.out.cell 0 (v := .int .i64 1) rfl
    have c1 := HX2.out.cell 1 (v := .int .i64 0) rfl
    have c2 := HX2.out.cell 2 (v := .slice none 0 0) rfl
    have c3 := HX2.out.cell 3 (v := .int .i64 0) rfl
    go_wp2_with fail
    refine (header_Payload12 1 (by decide) _ HT2.out).mono ?_
    rintro e w3 ⟨rfl, B⟩
    have HB3 := Lib.hid (HB2.out.trans (B.mono HB2.out.size)); clear B
    rw [show pay12 1 = 48 from rfl]
    have hln : l.length = 48 := by have := HL.out; rw [show pay12 1 = 48 from rfl] at this; omega
    have HLN := Lib.hid hln
    rw [hln]
    clear hln
    go_wp2_with fail
    go_ret
    exact ⟨rfl, HB3.out⟩
  · go_enter Tryz.func77, Tryz.ntmps77
    go_wp2_with fail
    refine (header_Parse12 A c 2 (by decide) l _ HB.out).mono ?_
    rintro e w1 ⟨rfl, B⟩
    have HT1 := Lib.hid (HT.out.below B (Nat.le_refl _)); have HB1 := Lib.hid B; clear B HT
    go_wp2_with fail
    have HX2 := Lib.hid (Bx.new w1 #[.int .i64 2, .int .i64 0, .slice none 0 0, .int .i64 0] 28)
    have HT2 := Lib.hid (HT1.out.alloc (.cells #[.int .i64 2, .int .i64 0, .slice none 0 0, .int .i64 0] 28))
    have HB2 := Lib.hid (HB1.out.alloc HB1.out.size (.cells #[.int .i64 2, .int .i64 0, .slice none 0 0, .int .i64 0] 28))
    generalize w1.alloc (.cells #[.int .i64 2, .int .i64 0, .slice none 0 0, .int .i64 0] 28) = w2 at *
    clear HT1 HB1
    have c0 := HX2.out.cell 0 (v := .int .i64 2) rfl
    have c1 := HX2.out.cell 1 (v := .int .i64 0) rfl
    have c2 := HX2.out.cell 2 (v := .slice none 0 0) rfl
    have c3 := HX2.out.cell 3 (v := .int .i64 0) rfl
    go_wp2_with fail
    refine (header_Payload12 2 (by decide) _ HT2.out).mono ?_
    rintro e w3 ⟨rfl, B⟩
    have HB3 := Lib.hid (HB2.out.trans (B.mono HB2.out.size)); clear B
    rw [show pay12 2 = 64 from rfl]
    have hln : l.length = 64 := by have := HL.out; rw [show pay12 2 = 64 from rfl] at this; omega
    have HLN := Lib.hid hln
    rw [hln]
    clear hln
    go_wp2_with fail
    go_ret
    exact ⟨rfl, HB3.out⟩
set_option maxHeartbeats 4000000 in
set_option maxRecDepth 100000 in
theorem header_Format12 (op : Int) (ho : op = 1 ∨ op = 2) (w : World) :
    Calls Tryz.prog 88 #[.agg #[.int .i64 op, .int .i64 0, .slice none 0 0, .int .i64 0]] w fun e w' => (∃ v, e = .returned (.tuple #[v, .int .i64 0]) ∧ OwB w' w.heap.size v [op]) ∧ Below w.heap.size w w' := by
  rcases ho with rfl | rfl
  · go_enter Tryz.func88, Tryz.ntmps88
    go_wp2_with fail
    have HX := Lib.hid (Bx.new w #[.int .i64 1, .int .i64 0, .slice none 0 0, .int .i64 0] 28)
    have HB1 := Lib.hid (show Below w.heap.size w (w.alloc (.cells #[.int .i64 1, .int .i64 0, .slice none 0 0, .int .i64 0] 28)) from below_al below_rf)
    generalize w.alloc (.cells #[.int .i64 1, .int .i64 0, .slice none 0 0, .int .i64 0] 28) = w1 at *
    have c0 := HX.out.cell 0 (v := .int .i64 1) rfl
    have c1 := HX.out.cell 1 (v := .int .i64 0) rfl
    have c2 := HX.out.cell 2 (v := .slice none 0 0) rfl
    have c3 := HX.out.cell 3 (v := .int .i64 0) rfl
    go_wp2_with fail
    refine (header_check12 _ (by decide) _).mono ?_
    rintro e w2 ⟨rfl, B⟩
    have HX2 := Lib.hid (HX.out.below B (Nat.le_refl _)); have HB2 := Lib.hid (below_tr HB1.out B)
    clear B HX HB1 c0 c1 c2 c3
    have c0 := HX2.out.cell 0 (v := .int .i64 1) rfl
    have c1 := HX2.out.cell 1 (v := .int .i64 0) rfl
    have c2 := HX2.out.cell 2 (v := .slice none 0 0) rfl
    have c3 := HX2.out.cell 3 (v := .int .i64 0) rfl
    have hlt := HX2.out.lt
    go_wp2_with fail
    have HO := Lib.hid (show OwB (w2.alloc (.cells #[.int .u8 1] 5)) w.heap.size (.slice (some ⟨w2.heap.size, 0, none⟩) 1 1) [1] from ⟨rfl, .inr ⟨w2.heap.size, 1, #[.int .u8 1], rfl, HB2.out.size, Bx.new _ _ _, Nat.le_refl _, by decide, rfl, rfl⟩⟩)
    have HB3 := Lib.hid (HB2.out.alloc HB2.out.size (.cells #[.int .u8 1] 5))
    refine wp_loop_rounds 1 ?_
    rw [rounds_succ]
    go_wp2_with fail
    go_ret2
    exact ⟨⟨_, rfl, HO.out⟩, HB3.out⟩
  · go_enter Tryz.func88, Tryz.ntmps88
    go_wp2_with fail
    have HX := Lib.hid (Bx.new w #[.int .i64 2, .int .i64 0, .slice none 0 0, .int .i64 0] 28)
    have HB1 := Lib.hid (show Below w.heap.size w (w.alloc (.cells #[.int .i64 2, .int .i64 0, .slice none 0 0, .int .i64 0] 28)) from below_al below_rf)
    generalize w.alloc (.cells #[.int .i64 2, .int .i64 0, .slice none 0 0, .int .i64 0] 28) = w1 at *
    have c0 := HX.out.cell 0 (v := .int .i64 2) rfl
    have c1 := HX.out.cell 1 (v := .int .i64 0) rfl
    have c2 := HX.out.cell 2 (v := .slice none 0 0) rfl
    have c3 := HX.out.cell 3 (v := .int .i64 0) rfl
    go_wp2_with fail
    refine (header_check12 _ (by decide) _).mono ?_
    rintro e w2 ⟨rfl, B⟩
    have HX2 := Lib.hid (HX.out.below B (Nat.le_refl _)); have HB2 := Lib.hid (below_tr HB1.out B)
    clear B HX HB1 c0 c1 c2 c3
    have c0 := HX2.out.cell 0 (v := .int .i64 2) rfl
    have c1 := HX2.out.cell 1 (v := .int .i64 0) rfl
    have c2 := HX2.out.cell 2 (v := .slice none 0 0) rfl
    have c3 := HX2.out.cell 3 (v := .int .i64 0) rfl
    have hlt := HX2.out.lt
    go_wp2_with fail
    have HO := Lib.hid (show OwB (w2.alloc (.cells #[.int .u8 2] 5)) w.heap.size (.slice (some ⟨w2.heap.size, 0, none⟩) 1 1) [2] from ⟨rfl, .inr ⟨w2.heap.size, 1, #[.int .u8 2], rfl, HB2.out.size, Bx.new _ _ _, Nat.le_refl _, by decide, rfl, rfl⟩⟩)
    have HB3 := Lib.hid (HB2.out.alloc HB2.out.size (.cells #[.int .u8 2] 5))
    refine wp_loop_rounds 1 ?_
    rw [rounds_succ]
    go_wp2_with fail
    go_ret2
    exact ⟨⟨_, rfl, HO.out⟩, HB3.out⟩
set_option maxHeartbeats 4000000 in
set_option maxRecDepth 100000 in
theorem codec_counts12 (op : Int) (ho : op = 1 ∨ op = 2) (w : World) :
    Calls Tryz.prog 82 #[.agg #[.int .i64 op, .int .i64 0, .slice none 0 0, .int .i64 0]] w fun e w' => e = .returned (.tuple #[.int .i64 (op + 2), .int .i64 0]) ∧ Below w.heap.size w w' := by
  rcases ho with rfl | rfl
  · go_enter Tryz.func82, Tryz.ntmps82
    go_wp2_with fail
    go_ret2
    exact ⟨rfl, below_al below_rf⟩
  · go_enter Tryz.func82, Tryz.ntmps82
    go_wp2_with fail
    go_ret2
    exact ⟨rfl, below_al below_rf⟩
end Go.Proofs.YtjdiilkljgljkaaGreatDoor
namespace Go.Proofs.YtjdiilkljgljkaaGreatDoor
set_option linter.unusedVariables false
set_option linter.unusedSimpArgs false
open Go.RowKit Wd

/-- the bytes of m points from number k on -/
def ptsF (f g : Nat → Int) (k : Nat) : Nat → List Int
  | 0 => []
  | m + 1 => ptB (f k) (g k) ++ ptsF f g (k + 1) m
theorem ptsB_F (f g : Nat → Int) : ∀ m k, ptsB f g (k + m) = ptsB f g k ++ ptsF f g k m
  | 0, k => by simp [ptsF]
  | m + 1, k => by
    rw [show k + (m + 1) = (k + 1) + m by omega, ptsB_F f g m (k + 1), ptsB, ptsF, List.append_assoc]
theorem ptsB_F0 (f g : Nat → Int) (n : Nat) : ptsB f g n = ptsF f g 0 n := by have := ptsB_F f g n 0; simpa [ptsB] using this
theorem ptsF_step (f g : Nat → Int) {k n : Nat} (h : k < n) : ptsF f g k (n - k) = ptB (f k) (g k) ++ ptsF f g (k + 1) (n - (k + 1)) := by
  rw [show n - k = (n - (k + 1)) + 1 by omega, ptsF]
/-- the bytes of queries -/
def qusB (f g d : Nat → Int) : Nat → List Int
  | 0 => []
  | k + 1 => qusB f g d k ++ quB (f k) (g k) (d k)
theorem qusB_len (f g d : Nat → Int) : ∀ k, (qusB f g d k).length = 24 * k
  | 0 => rfl
  | k + 1 => by rw [qusB, List.length_append, qusB_len f g d k, quB_len]; omega
def qusF (f g d : Nat → Int) (k : Nat) : Nat → List Int
  | 0 => []
  | m + 1 => quB (f k) (g k) (d k) ++ qusF f g d (k + 1) m
theorem qusB_F (f g d : Nat → Int) : ∀ m k, qusB f g d (k + m) = qusB f g d k ++ qusF f g d k m
  | 0, k => by simp [qusF]
  | m + 1, k => by
    rw [show k + (m + 1) = (k + 1) + m by omega, qusB_F f g d m (k + 1), qusB, qusF, List.append_assoc]
theorem qusB_F0 (f g d : Nat → Int) (n : Nat) : qusB f g d n = qusF f g d 0 n := by have := qusB_F f g d n 0; simpa [qusB] using this
theorem qusF_step (f g d : Nat → Int) {k n : Nat} (h : k < n) : qusF f g d k (n - k) = quB (f k) (g k) (d k) ++ qusF f g d (k + 1) (n - (k + 1)) := by
  rw [show n - k = (n - (k + 1)) + 1 by omega, qusF]
/-- the first k elements of a row, s cells each, are e 0 .., the row has m cells -/
structure RowE (cur : Array Value) (s m k : Nat) (e : Nat → Nat → Value) : Prop where
  size : cur.size = m
  at_ : ∀ i, i < k → ∀ j, j < s → cur[i * s + j]? = some (e i j)
def setRow (cur : Array Value) (o : Nat) : List Value → Array Value
  | [] => cur
  | v :: l => setRow (cur.setIfInBounds o v) (o + 1) l
theorem setRow_size : ∀ (l : List Value) (cur : Array Value) (o : Nat), (setRow cur o l).size = cur.size
  | [], _, _ => rfl
  | v :: l, cur, o => by rw [setRow, setRow_size l]; simp
theorem setRow_get : ∀ (l : List Value) (cur : Array Value) (o : Nat), o + l.length ≤ cur.size → ∀ i, (setRow cur o l)[i]? = if o ≤ i ∧ i < o + l.length then l[i - o]? else cur[i]?
  | [], cur, o, h, i => by simp [setRow]; intro h1 h2; omega
  | v :: l, cur, o, h, i => by
    simp only [List.length_cons] at h
    rw [setRow, setRow_get l _ _ (by simp; omega)]
    by_cases h1 : o + 1 ≤ i ∧ i < o + 1 + l.length
    · rw [if_pos h1, if_pos (by simp; omega), show i - o = (i - (o + 1)) + 1 by omega]; simp
    · rw [if_neg h1]
      by_cases h2 : i = o
      · subst h2; rw [if_pos (by simp)]; have h3 : i < cur.size := by omega
        simp [h3]
      · rw [if_neg (by simp; omega), Array.getElem?_setIfInBounds_ne (by omega)]
theorem RowE.snoc {cur : Array Value} {s m k : Nat} {e : Nat → Nat → Value} (h : RowE cur s m k e) (hk : k * s + s ≤ m) (l : List Value) (hl : l.length = s) (he : ∀ j, j < s → l[j]? = some (e k j)) : RowE (setRow cur (k * s) l) s m (k + 1) e :=
  ⟨(setRow_size _ _ _).trans h.size, fun i hi j hj => by
    rw [setRow_get _ _ _ (by rw [hl, h.size]; exact hk), hl]
    rcases (by omega : i < k ∨ i = k) with h1 | rfl
    · have h2 : i * s + s ≤ k * s := by have := Nat.mul_le_mul_right s (show i + 1 ≤ k by omega); rw [Nat.add_mul, Nat.one_mul] at this; exact this
      rw [if_neg (by omega)]; exact h.at_ i h1 j hj
    · rw [if_pos (by omega), show i * s + j - i * s = j by omega]; exact he j hj⟩
theorem RowE.some {cur : Array Value} {s m k : Nat} {e : Nat → Nat → Value} (h : RowE cur s m k e) {i : Nat} (hi : i < m) : ∃ v, cur[i]? = Option.some v := ⟨_, Array.getElem?_eq_getElem (by rw [h.size]; exact hi)⟩
def ptE (f g : Nat → Int) (i j : Nat) : Value := if j = 0 then .int .i64 (f i) else .int .i64 (g i)
def quE (f g d : Nat → Int) (i j : Nat) : Value := if j = 0 then .int .i64 (f i) else if j = 1 then .int .i64 (g i) else .int .u64 (d i)
/-- the slice '.slice A n c' holds these queries -/
structure Qus (w : World) (A : Option Addr) (n c : Nat) (f g d : Nat → Int) : Prop where
  cap : n ≤ c
  max : c ≤ maxLen
  isi : ∀ i, i < n → IsI (f i) ∧ IsI (g i) ∧ IsW (d i)
  at_ : 0 < n → ∃ b off, A = some ⟨b, off, none⟩ ∧ b < w.heap.size ∧ ∀ i, i < n → w.cell? ⟨b, off + i * 3, none⟩ = some (.int .i64 (f i)) ∧ w.cell? ⟨b, off + i * 3 + 1, none⟩ = some (.int .i64 (g i)) ∧ w.cell? ⟨b, off + i * 3 + 2, none⟩ = some (.int .u64 (d i))
theorem Qus.below {w w' : World} {B : Nat} {A : Option Addr} {n c : Nat} {f g d : Nat → Int} (h : Qus w A n c f g d) (hb : Below B w w') (hB : w.heap.size ≤ B) : Qus w' A n c f g d :=
  ⟨h.cap, h.max, h.isi, fun hn => by
    obtain ⟨b, off, e, hlt, hc⟩ := h.at_ hn
    exact ⟨b, off, e, Nat.lt_of_lt_of_le hlt hb.size, fun i hi => ⟨(hb.cell (p := ⟨b, off + i * 3, none⟩) (by show b < B; omega)).trans (hc i hi).1, (hb.cell (p := ⟨b, off + i * 3 + 1, none⟩) (by show b < B; omega)).trans (hc i hi).2.1, (hb.cell (p := ⟨b, off + i * 3 + 2, none⟩) (by show b < B; omega)).trans (hc i hi).2.2⟩⟩⟩
theorem Qus.alloc {w : World} {A : Option Addr} {n c : Nat} {f g d : Nat → Int} (h : Qus w A n c f g d) (o : Obj) : Qus (w.alloc o) A n c f g d :=
  h.below ((Below.refl w.heap.size w).alloc (Nat.le_refl _) o) (Nat.le_refl _)
theorem Qus.drew {w : World} {A : Option Addr} {n c : Nat} {f g d : Nat → Int} (h : Qus w A n c f g d) : Qus w.drew A n c f g d := h.below (Below.refl w.heap.size w).drew (Nat.le_refl _)
theorem bx_ptE {w : World} {b n : Nat} {f g : Nat → Int} {cur : Array Value} {t : TypeId} (h : Bx w b cur t) (hc : RowE cur 2 (n * 2) n (ptE f g)) (hm : n ≤ maxLen) (hi : ∀ i, i < n → IsI (f i) ∧ IsI (g i)) : Pts w (some ⟨b, 0, none⟩) n n f g :=
  ⟨Nat.le_refl _, hm, hi, fun _ => ⟨b, 0, rfl, h.lt, fun i hi' => by
    rw [Nat.zero_add]; exact ⟨h.cell _ (hc.at_ i hi' 0 (by decide)), h.cell _ (hc.at_ i hi' 1 (by decide))⟩⟩⟩
theorem bx_quE {w : World} {b n : Nat} {f g d : Nat → Int} {cur : Array Value} {t : TypeId} (h : Bx w b cur t) (hc : RowE cur 3 (n * 3) n (quE f g d)) (hm : n ≤ maxLen) (hi : ∀ i, i < n → IsI (f i) ∧ IsI (g i) ∧ IsW (d i)) : Qus w (some ⟨b, 0, none⟩) n n f g d :=
  ⟨Nat.le_refl _, hm, hi, fun _ => ⟨b, 0, rfl, h.lt, fun i hi' => by
    rw [Nat.zero_add]; exact ⟨h.cell _ (hc.at_ i hi' 0 (by decide)), h.cell _ (hc.at_ i hi' 1 (by decide)), h.cell _ (hc.at_ i hi' 2 (by decide))⟩⟩⟩
/-- no cell holds a byte -/
def NoB (cs : Array Value) : Prop := ∀ u ∈ cs.toList, ∀ x, u ≠ .int .u8 x
theorem noB_set {cs : Array Value} (h : NoB cs) {v : Value} (hv : ∀ x, v ≠ .int .u8 x) (i : Nat) : NoB (cs.setIfInBounds i v) := by
  intro u hu x
  rw [Array.toList_setIfInBounds] at hu
  rcases List.mem_or_eq_of_mem_set hu with h1 | h1
  · exact h u h1 x
  · rw [h1]; exact hv x
theorem noB_setRow : ∀ (l : List Value) {cs : Array Value} (o : Nat), NoB cs → (∀ v ∈ l, ∀ x, v ≠ .int .u8 x) → NoB (setRow cs o l)
  | [], _, _, h, _ => h
  | v :: l, cs, o, h, hl => noB_setRow l _ (noB_set h (hl v (by simp)) o) (fun u hu => hl u (by simp [hu]))
theorem noB_made {z : Array Value} (hz : NoB z) (h0 : 0 < z.size) (n : Nat) : NoB (madeCells z n) := by
  intro u hu x
  simp only [madeCells, Array.toList_map, List.mem_map] at hu
  obtain ⟨i, _, rfl⟩ := hu
  rw [getElem!_pos z _ (Nat.mod_lt _ h0)]
  exact hz _ (by simp) x
theorem madeRow {w : World} {base e s n g : Nat} {z : Array Value} (h : w.ownsRow base e s (.slice (some ⟨g, 0, none⟩) n n) n (madeCells z (n * s)).toList) (hn : 0 < n) : Bx w g (madeCells z (n * s)) e := by
  rcases h.2 with ⟨h, _⟩ | ⟨g', cap, cur, e1, _, h3, _, _, h6, h7⟩
  · cases h
  · cases e1
    have : cur = madeCells z (n * s) := by
      rw [List.take_of_length_le (by simp [h6])] at h7
      exact Array.toList_inj.1 h7
    rw [← this]; exact h3
end Go.Proofs.YtjdiilkljgljkaaGreatDoor
namespace Go.Proofs.YtjdiilkljgljkaaGreatDoor
set_option linter.unusedVariables false
set_option linter.unusedSimpArgs false
open Go.RowKit Wd

set_option maxHeartbeats 4000000 in
set_option maxRecDepth 100000 in
theorem each_pts (r : World) (base bw : Nat) (A : Option Addr) (n c : Nat) (f g : Nat → Int) (hn : n ≤ 10000) (l : List Int) (hl : l.length ≤ 500000) (w : World) (hb : base ≤ w.heap.size) (hrb : r.heap.size ≤ base) (hp : Pts r A n c f g) (hbr : Below base r w) (hw : Wr w base bw l) :
    Calls Tryz.prog 113 #[.slice A n c, .func (.func 114) #[.pointer (some ⟨bw, 0, none⟩)] #[]] w fun e w' => e = .returned (.tuple #[]) ∧ Wr w' base bw (l ++ ptsB f g n) ∧ Fr base (some bw) w w' := by
  have HW := Lib.hid hw; have HP := Lib.hid hp; have HLL := Lib.hid hl; have HN := Lib.hid hn; have HRB := Lib.hid hrb; have HBR0 := Lib.hid hbr; clear hw hp hl hn hrb hbr
  go_enter Tryz.func113, Tryz.ntmps113
  go_wp2_with fail
  go_loopw [8] (fun ir wr => ∃ k : Nat, k ≤ n ∧ ir = .int .i64 (k : Int) ∧ Wr wr base bw (l ++ ptsB f g k) ∧ Fr base (some bw) w wr) (fun i _ => n - (intOf i).toNat)
  case atStart => exact ⟨0, Nat.zero_le _, rfl, by simpa [ptsB] using HW.out, Fr.refl _ _ _⟩
  case round =>
    obtain ⟨k, hk, rfl, hwr, hbr⟩ := hrel
    have HWR := Lib.hid hwr; have HBR := Lib.hid hbr; clear hwr hbr
    by_cases hlt : k < n
    · obtain ⟨b, off, rfl, hbl, hc⟩ := HP.out.at_ (by omega)
      have hB := HBR0.out.trans HBR.out.below
      have c0 : wr.cell? ⟨b, off + k * 2, none⟩ = some (.int .i64 (f k)) := (hB.cell (p := ⟨b, off + k * 2, none⟩) (by show b < base; have := HRB.out; omega)).trans (hc k hlt).1
      have c1 : wr.cell? ⟨b, off + k * 2 + 1, none⟩ = some (.int .i64 (g k)) := (hB.cell (p := ⟨b, off + k * 2 + 1, none⟩) (by show b < base; have := HRB.out; omega)).trans (hc k hlt).2
      have hcp := HP.out.cap; have hmx := HP.out.max
      unfold maxLen at hmx
      clear hB hc hbl
      have hms := Lib.hid (show n - (intOf (.int .i64 ((k : Int) + 1))).toNat < n - (intOf (.int .i64 (k : Int))).toNat from by simp [intOf]; omega)
      have hlk : (l ++ ptsB f g k).length ≤ 900000 := by have := HLL.out; have := HN.out; simp [ptsB_len]; omega
      have HLK := Lib.hid hlk; clear hlk
      go_wp2_with fail
      clear c0 c1
      have HF := Lib.hid (HBR.out.alloc (Nat.le_trans hb HBR.out.size) (.cells #[.int .i64 (f k), .int .i64 (g k)] 23))
      have HW1 := Lib.hid (HWR.out.alloc (.cells #[.int .i64 (f k), .int .i64 (g k)] 23))
      generalize wr.alloc (.cells #[.int .i64 (f k), .int .i64 (g k)] 23) = w1 at *
      clear HBR HWR
      refine (writer_point base bw _ (f k) (g k) HLK.out _ (Nat.le_trans hb HF.out.size) HW1.out).mono ?_
      rintro e w2 ⟨rfl, h2, g2⟩
      have HW2 := Lib.hid (show Wr w2 base bw (l ++ ptsB f g (k + 1)) from by rw [ptsB, ← List.append_assoc]; exact h2); have HF2 := Lib.hid (HF.out.trans g2); clear h2 g2 HW1 HF
      go_wp2_with fail
      go_roundw
      case rel => exact ⟨k + 1, hlt, by go_num, HW2.out, HF2.out⟩
      case measure => exact hms.out
    · obtain rfl : k = n := by omega
      go_wp2_with fail
      go_end0
      exact ⟨rfl, HWR.out, HBR.out⟩
set_option maxHeartbeats 4000000 in
set_option maxRecDepth 100000 in
theorem each_qus0 (A : Option Addr) (c : Nat) (F : Value) (w : World) :
    Calls Tryz.prog 115 #[.slice A 0 c, F] w fun e w' => e = .returned (.tuple #[]) ∧ w = w' := by
  go_enter Tryz.func115, Tryz.ntmps115
  go_wp2_with fail
  refine wp_loop_rounds 1 ?_
  rw [rounds_succ]
  go_wp2_with fail
  go_end0
  exact ⟨rfl, rfl⟩
set_option maxHeartbeats 4000000 in
set_option maxRecDepth 100000 in
theorem each_recs0 (A : Option Addr) (c : Nat) (F : Value) (w : World) :
    Calls Tryz.prog 90 #[.slice A 0 c, F] w fun e w' => e = .returned (.tuple #[]) ∧ w = w' := by
  go_enter Tryz.func90, Tryz.ntmps90
  go_wp2_with fail
  refine wp_loop_rounds 1 ?_
  rw [rounds_succ]
  go_wp2_with fail
  go_end0
  exact ⟨rfl, rfl⟩
set_option maxHeartbeats 4000000 in
set_option maxRecDepth 100000 in
theorem take_qus0 (F : Value) (w : World) :
    Calls Tryz.prog 83 #[.int .i64 0, F] w fun e w' => e = .returned (.slice (some ⟨w.heap.size, 0, none⟩) 0 0) ∧ Below w.heap.size w w' := by
  have hmk : ∀ w, (Instr.makeSlice 30 (.int .i64 0) (.int .i64 0)).run Tryz.prog w = .ok (.slice (some ⟨w.heap.size, 0, none⟩) 0 0) (w.alloc (.cells #[] 63)) := fun _ => by kernel_rfl
  go_enter Tryz.func83, Tryz.ntmps83
  go_wp2_with fail
  refine wp_loop_rounds 1 ?_
  rw [rounds_succ]
  go_wp2_with fail
  go_ret
  exact ⟨rfl, below_al below_rf⟩
end Go.Proofs.YtjdiilkljgljkaaGreatDoor
