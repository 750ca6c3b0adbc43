/- Part a of the lemmas of TopBatch: contracts of functions of the program, and plain laws of numbers, bytes and memory. -/
import Derived.Laws.BitsAllLaws
import Derived.Lib.Mul64
import Derived.WalkKit
import Derived.Lib.Hide
import Derived.Deep.Draws
import Derived.Test.YtjdiilkljgljkaaGreatDoorProg
import Derived.Laws.AppendOwn
import Derived.ProofKit
import Derived.OpenShut
import Derived.Deep.Slices
import Derived.Lib.SmallJoins
import Derived.Deep.SlicePairs
import Derived.Laws.CopyOwn
import Derived.LoopTactic
import Derived.OrdersHeld
import Derived.Deep.RegionHeld3
import Derived.WalkSpells
import Derived.Deep.QuietTactic
import Derived.BigQuiet
import Derived.Deep.AppendLies
set_option maxHeartbeats 4000000
namespace Go.Proofs.YtjdiilkljgljkaaGreatDoor
set_option linter.unusedVariables false
set_option linter.unusedSimpArgs false
theorem ν {n : Nat} : n ≤ n := Nat.le_refl n
theorem η {p : Prop} (h : p) : RowKit.Hid p := h
namespace Wd
open Go.RowKit
def IsW (a : Int) : Prop := 0 ≤ a ∧ a < 18446744073709551616
def lo (x : Int) : Int := x % 18446744073709551616
def hi (x : Int) : Int := x / 18446744073709551616 % 18446744073709551616
def msk (b : Bool) : Int := if b then 18446744073709551615 else 0
def bor (x y c : Int) : Int := if x < y + c then 1 else 0
theorem Zay (x : Int) : IsW (lo x) := by unfold IsW lo; omega
theorem Zjl (x : Int) : IsW (hi x) := by unfold IsW hi; omega
theorem JO (x : Int) : IsW (IntKind.u64.wrap x) := by rw [IntKind.wrap_u64]; unfold IsW; omega
theorem Zcr (b : Bool) : IsW (msk b) := by unfold IsW msk; cases b <;> decide
theorem ZgT {a : Int} (h : (Lit.int .u64 a).wf = true) : IsW a := by
 have hmin : IntKind.u64.min = 0 := rfl
 have hmax : IntKind.u64.max = 18446744073709551615 := rfl
 simp only [Lit.wf, Bool.and_eq_true, decide_eq_true_eq] at h
 unfold IsW; omega
def IsI (a : Int) : Prop := -9223372036854775808 ≤ a ∧ a ≤ 9223372036854775807
theorem ZaS {a : Int} (h : (Lit.int .i64 a).wf = true) : IsI a := by
 have hmin : IntKind.i64.min = -9223372036854775808 := rfl
 have hmax : IntKind.i64.max = 9223372036854775807 := rfl
 simp only [Lit.wf, Bool.and_eq_true, decide_eq_true_eq] at h
 unfold IsI; omega
theorem wrapU (n : Int) : IntKind.u64.wrap n = lo n := IntKind.wrap_u64 n
theorem ZjR {n : Int} (h : IsW n) : lo n = n := by unfold IsW at h; unfold lo; omega
theorem Zat {c : Int} (h : IsW c) : bits .and .u64 c 1 = c % 2 := by
 unfold IsW at h
 rw [u64_and c 1 h.1 h.2 (by omega) (by omega)]
 show ((c.toNat &&& 1 : Nat) : Int) = _
 rw [Nat.and_one_is_mod]; omega
theorem Zjm {c : Int} (h : IsW c) : lo (-bits .and .u64 c 1) = msk (decide (c % 2 = 1)) := by
 rw [Zat h]; unfold lo msk; by_cases hc : c % 2 = 1 <;> simp [hc] <;> omega
theorem Zau {a : Nat} (h : a < 18446744073709551616) : a / 9223372036854775808 % 2 = a / 9223372036854775808 := by omega
theorem JL (a : Nat) : a.testBit 63 = decide (a / 9223372036854775808 % 2 = 1) := Nat.testBit_eq_decide_div_mod_eq
theorem ZgU {a b : Nat} (ha : a < 18446744073709551616) : (a &&& b) / 9223372036854775808 = 1 ↔ 9223372036854775808 ≤ a ∧ b / 9223372036854775808 % 2 = 1 := by
 have h : (a &&& b) ≤ a := Nat.and_le_left
 have e := Nat.testBit_and a b 63
 rw [JL, JL, JL] at e
 have := Zau (a := a &&& b) (by omega)
 have := Zau ha
 constructor
 ·intro h1
  have : decide ((a &&& b) / 9223372036854775808 % 2 = 1) = true := by simp; omega
  rw [this] at e; simp at e; omega
 ·intro ⟨h1, h2⟩
  have : decide (a / 9223372036854775808 % 2 = 1) = true := by simp; omega
  rw [this] at e; simp [h2] at e; omega
theorem Zio {a b : Nat} (ha : a < 18446744073709551616) (hb : b < 18446744073709551616) : (a ||| b) / 9223372036854775808 = 1 ↔ 9223372036854775808 ≤ a ∨ 9223372036854775808 ≤ b := by
 have h : a ||| b < 2 ^ 64 := Nat.or_lt_two_pow (by omega) (by omega)
 have e := Nat.testBit_or a b 63
 rw [JL, JL, JL] at e
 have h1 := Zau (a := a ||| b) (by omega)
 have h2 := Zau ha
 have h3 := Zau hb
 rw [h1, h2, h3] at e
 by_cases ca : 9223372036854775808 ≤ a <;> by_cases cb : 9223372036854775808 ≤ b <;> by_cases cc : (a ||| b) / 9223372036854775808 = 1 <;> simp [ca, cb, cc] at e ⊢ <;> omega
theorem Zjn {a b : Nat} (ha : a < 18446744073709551616) (hb : b < 18446744073709551616) : (a ^^^ b) / 9223372036854775808 = 1 ↔ ¬ (9223372036854775808 ≤ a ↔ 9223372036854775808 ≤ b) := by
 have h : a ^^^ b < 2 ^ 64 := Nat.xor_lt_two_pow (by omega) (by omega)
 have e := Nat.testBit_xor a b 63
 rw [JL, JL, JL] at e
 have h1 := Zau (a := a ^^^ b) (by omega)
 have h2 := Zau ha
 have h3 := Zau hb
 rw [h1, h2, h3] at e
 by_cases ca : 9223372036854775808 ≤ a <;> by_cases cb : 9223372036854775808 ≤ b <;> by_cases cc : (a ^^^ b) / 9223372036854775808 = 1 <;> simp [ca, cb, cc] at e ⊢ <;> omega
theorem Zgr {a : Int} (h : IsW a) : bits .xor .u64 IntKind.u64.max a = 18446744073709551615 - a := by
 rw [show IntKind.u64.max = 18446744073709551615 from rfl]
 unfold IsW at h
 obtain ⟨n, rfl⟩ := Int.eq_ofNat_of_zero_le h.1
 rw [show (18446744073709551615 : Int) = ((18446744073709551615 : Nat) : Int) from rfl, u64_xor_nat 18446744073709551615 n (by omega) (by omega)]
 have e : 18446744073709551615 ^^^ n = 18446744073709551615 - n := by
  have hn : n < 2 ^ 64 := by omega
  have := BitVec.toNat_not (x := BitVec.ofNat 64 n)
  rw [← BitVec.allOnes_xor, BitVec.toNat_xor] at this
  simpa [Nat.mod_eq_of_lt hn] using this
 rw [e]; omega
theorem ZeL {a b : Int} (ha : IsW a) (hb : IsW b) : IsW (bits .and .u64 a b) := by
 unfold IsW at *
 rw [u64_and a b ha.1 ha.2 hb.1 hb.2]
 have : a.toNat &&& b.toNat ≤ a.toNat := Nat.and_le_left
 omega
theorem or_w {a b : Int} (ha : IsW a) (hb : IsW b) : IsW (bits .or .u64 a b) := by
 unfold IsW at *
 rw [u64_or a b ha.1 ha.2 hb.1 hb.2]
 have : a.toNat ||| b.toNat < 2 ^ 64 := Nat.or_lt_two_pow (by omega) (by omega)
 omega
theorem Zd6 {a b : Int} (ha : IsW a) (hb : IsW b) : IsW (bits .xor .u64 a b) := by
 unfold IsW at *
 rw [u64_xor a b ha.1 ha.2 hb.1 hb.2]
 have : a.toNat ^^^ b.toNat < 2 ^ 64 := Nat.xor_lt_two_pow (by omega) (by omega)
 omega
theorem and_msk (m : Bool) {a : Int} (ha : IsW a) : bits .and .u64 (msk m) a = if m then a else 0 := by
 have hm := Zcr m
 have ha' := ha
 unfold IsW at *
 rw [u64_and _ a hm.1 hm.2 ha.1 ha.2]
 obtain ⟨n, rfl⟩ := Int.eq_ofNat_of_zero_le ha.1
 cases m
 ·simp [msk]
 ·show ((18446744073709551615 &&& n : Nat) : Int) = _
  rw [Nat.and_comm, show (18446744073709551615 : Nat) = 2 ^ 64 - 1 from rfl, Nat.and_two_pow_sub_one_eq_mod]
  simp; omega
theorem Zgs {a b : Int} (ha : IsW a) (hb : IsW b) : bits .xor .u64 a b = bits .xor .u64 b a := by
 unfold IsW at *
 rw [u64_xor a b ha.1 ha.2 hb.1 hb.2, u64_xor b a hb.1 hb.2 ha.1 ha.2, Nat.xor_comm]
theorem Zgt {a b : Int} (ha : IsW a) (hb : IsW b) : bits .and .u64 a b = bits .and .u64 b a := by
 unfold IsW at *
 rw [u64_and a b ha.1 ha.2 hb.1 hb.2, u64_and b a hb.1 hb.2 ha.1 ha.2, Nat.and_comm]
theorem Zgu {a : Int} (ha : IsW a) : bits .xor .u64 a 0 = a := by
 unfold IsW at *
 rw [u64_xor a 0 ha.1 ha.2 (by omega) (by omega)]; simp; omega
theorem ZgV {a b : Int} (ha : IsW a) (hb : IsW b) : bits .xor .u64 b (bits .xor .u64 a b) = a := by
 have h := Zd6 ha hb
 unfold IsW at *
 rw [u64_xor b _ hb.1 hb.2 h.1 h.2, u64_xor a b ha.1 ha.2 hb.1 hb.2]
 rw [Int.toNat_natCast, Nat.xor_comm a.toNat, ← Nat.xor_assoc, Nat.xor_self, Nat.zero_xor]
 omega
theorem ZhK (m : Bool) {a b : Int} (ha : IsW a) (hb : IsW b) : bits .xor .u64 b (bits .and .u64 (msk m) (bits .xor .u64 a b)) = if m then a else b := by
 rw [and_msk m (Zd6 ha hb)]
 cases m
 ·simpa using Zgu hb
 ·simpa using ZgV ha hb
def selI (m : Bool) (a b : Int) : Int := if m then a else b
theorem Zc6 (m : Bool) {a b : Int} (ha : IsW a) (hb : IsW b) : bits .xor .u64 b (bits .and .u64 (msk m) (bits .xor .u64 a b)) = selI m a b := ZhK m ha hb
theorem ZjS {a : Int} (h : IsW a) : IsW (a / 9223372036854775808) ∧ (a / 9223372036854775808) % 2 = a / 9223372036854775808 ∧ ((a / 9223372036854775808) % 2 = 1 ↔ 9223372036854775808 ≤ a) := by
 unfold IsW at *; omega
theorem Zjo {a : Int} (h : IsW a) : (18446744073709551615 - bits .or .u64 a (lo (0 - a))) / 9223372036854775808 % 2 = if a = 0 then 1 else 0 := by
 have h2 := Zay (0 - a)
 have hor := or_w h h2
 have hh := h
 unfold IsW at h h2 hor
 rw [u64_or a _ h.1 h.2 h2.1 h2.2] at *
 obtain ⟨n, rfl⟩ := Int.eq_ofNat_of_zero_le h.1
 by_cases hz : n = 0
 ·subst hz; simp [lo]
 ·have e := Zio (a := n) (b := (lo (0 - (n : Int))).toNat) (by omega) (by omega)
  have hl : lo (0 - (n : Int)) = 18446744073709551616 - n := by unfold lo; omega
  have : (9223372036854775808 ≤ n ∨ 9223372036854775808 ≤ (lo (0 - (n : Int))).toNat) := by omega
  have e1 := e.2 this
  simp only [Int.toNat_natCast]
  rw [if_neg (by omega)]
  omega
theorem Zjp {a b : Int} (ha : IsW a) (hb : IsW b) :
  bits .or .u64 (bits .and .u64 (18446744073709551615 - a) b) (bits .and .u64 (18446744073709551615 - bits .xor .u64 a b) (lo (a - b))) / 9223372036854775808 % 2 = if a < b then 1 else 0 := by
 have hna : IsW (18446744073709551615 - a) := by unfold IsW at *; omega
 have hx := Zd6 ha hb
 have hnx : IsW (18446744073709551615 - bits .xor .u64 a b) := by unfold IsW at *; omega
 have hd := Zay (a - b)
 have h1 := ZeL hna hb
 have h2 := ZeL hnx hd
 have h3 := or_w h1 h2
 have hld : lo (a - b) = (a - b) % 18446744073709551616 := rfl
 unfold IsW at *
 rw [u64_or _ _ h1.1 h1.2 h2.1 h2.2] at *
 rw [u64_and _ _ hna.1 hna.2 hb.1 hb.2] at *
 rw [u64_and _ _ hnx.1 hnx.2 hd.1 hd.2] at *
 rw [u64_xor _ _ ha.1 ha.2 hb.1 hb.2] at *
 generalize hdd : lo (a - b) = d at *
 obtain ⟨n, rfl⟩ := Int.eq_ofNat_of_zero_le ha.1
 obtain ⟨m, rfl⟩ := Int.eq_ofNat_of_zero_le hb.1
 obtain ⟨k, rfl⟩ := Int.eq_ofNat_of_zero_le hd.1
 simp only [Int.toNat_natCast] at *
 have x1 := Zjn (a := n) (b := m) (by omega) (by omega)
 generalize n ^^^ m = x at *
 have a1 := ZgU (a := (18446744073709551615 - (n : Int)).toNat) (b := m) (by omega)
 have a2 := ZgU (a := (18446744073709551615 - (x : Int)).toNat) (b := k) (by omega)
 generalize (18446744073709551615 - (n : Int)).toNat &&& m = y at *
 generalize (18446744073709551615 - (x : Int)).toNat &&& k = z at *
 have o1 := Zio (a := y) (b := z) (by omega) (by omega)
 generalize y ||| z = q at *
 split <;> omega
theorem isW_lt_mul {a b : Int} (ha : IsW a) (hb : IsW b) : 0 ≤ a * b ∧ a * b ≤ 18446744073709551615 * 18446744073709551615 := by
 unfold IsW at *
 exact ⟨Int.mul_nonneg ha.1 hb.1, Int.mul_le_mul (by omega) (by omega) hb.1 (by omega)⟩
theorem ZeP {p c d : Int} (hp : 0 ≤ p ∧ p ≤ 18446744073709551615 * 18446744073709551615) (hc : IsW c) (hd : IsW d) :
  lo (lo (lo p + c) + d) = lo (p + c + d) ∧
  lo (lo (hi p + (lo p + c) / 18446744073709551616) + (lo (lo p + c) + d) / 18446744073709551616) = hi (p + c + d) := by
 unfold IsW lo hi at *; omega
theorem Zkc {a b c d : Int} (ha : IsW a) (hb : IsW b) (hc : IsW c) (hd : IsW d) :
  ∃ x y z v : Int, x = (a % 4294967296) * (b % 4294967296) ∧ y = (a % 4294967296) * (b / 4294967296) ∧ z = (a / 4294967296) * (b % 4294967296) ∧ v = (a / 4294967296) * (b / 4294967296) ∧
   (0 ≤ x ∧ x ≤ 18446744065119617025) ∧ (0 ≤ y ∧ y ≤ 18446744065119617025) ∧ (0 ≤ z ∧ z ≤ 18446744065119617025) ∧ (0 ≤ v ∧ v ≤ 18446744065119617025) ∧
   a * b = v * 18446744073709551616 + (y + z) * 4294967296 + x := by
 have key : ∀ {p q : Int}, 0 ≤ p → p ≤ 4294967295 → 0 ≤ q → q ≤ 4294967295 → 0 ≤ p * q ∧ p * q ≤ 18446744065119617025 := by
  intro p q h1 h2 h3 h4
  exact ⟨Int.mul_nonneg h1 h3, by have := Int.mul_le_mul h2 h4 h3 (by omega : (0 : Int) ≤ 4294967295); omega⟩
 unfold IsW at *
 refine ⟨_, _, _, _, rfl, rfl, rfl, rfl, key (by omega) (by omega) (by omega) (by omega), key (by omega) (by omega) (by omega) (by omega), key (by omega) (by omega) (by omega) (by omega), key (by omega) (by omega) (by omega) (by omega), ?_⟩
 have e1 : a = (a / 4294967296) * 4294967296 + a % 4294967296 := by omega
 have e2 : b = (b / 4294967296) * 4294967296 + b % 4294967296 := by omega
 generalize a / 4294967296 = a1 at *
 generalize a % 4294967296 = a0 at *
 generalize b / 4294967296 = b1 at *
 generalize b % 4294967296 = b0 at *
 subst e1 e2
 rw [Int.add_mul, Int.mul_add, Int.mul_add]
 rw [show a1 * 4294967296 * (b1 * 4294967296) = (a1 * b1) * 18446744073709551616 from by rw [Int.mul_assoc, ← Int.mul_assoc 4294967296, Int.mul_comm 4294967296 b1, Int.mul_assoc b1, ← Int.mul_assoc]; rfl]
 rw [show a1 * 4294967296 * b0 = (a1 * b0) * 4294967296 from by rw [Int.mul_assoc, Int.mul_comm 4294967296 b0, ← Int.mul_assoc]]
 rw [show a0 * (b1 * 4294967296) = (a0 * b1) * 4294967296 from by rw [← Int.mul_assoc]]
 omega
end Wd
end Go.Proofs.YtjdiilkljgljkaaGreatDoor
namespace Go.Proofs.YtjdiilkljgljkaaGreatDoor
set_option linter.unusedVariables false
set_option linter.unusedSimpArgs false
open Go.RowKit
structure Sl (w : World) (k : IntKind) (A : Option Addr) (n c : Nat) (f : Nat → Int) : Prop where
 cap : n ≤ c
 max : c ≤ maxLen
 at_ : 0 < n → ∃ b off, A = some ⟨b, off, none⟩ ∧ b < w.heap.size ∧ ∀ i, i < n → w.cell? ⟨b, off + i, none⟩ = some (.int k (f i))
theorem Sl.below {w w' : World} {B : Nat} {k : IntKind} {A : Option Addr} {n c : Nat} {f : Nat → Int} (h : Sl w k A n c f) (hb : Below B w w') (hB : w.heap.size ≤ B) : Sl w' k A n c f :=
 ⟨h.cap, h.max, fun hn => by
  obtain ⟨b, off, e, hlt, hc⟩ := h.at_ hn
  exact ⟨b, off, e, Nat.lt_of_lt_of_le hlt hb.size, fun i hi => (hb.cell (p := ⟨b, off + i, none⟩) (by show b < B; omega)).trans (hc i hi)⟩⟩
theorem Sl.congr {w : World} {k : IntKind} {A : Option Addr} {n c : Nat} {f g : Nat → Int} (h : Sl w k A n c f) (he : ∀ i, i < n → f i = g i) : Sl w k A n c g :=
 ⟨h.cap, h.max, fun hn => by
  obtain ⟨b, off, e, hlt, hc⟩ := h.at_ hn
  exact ⟨b, off, e, hlt, fun i hi => by rw [hc i hi, he i hi]⟩⟩
theorem Sl.none_ {w : World} {k : IntKind} {f : Nat → Int} : Sl w k none 0 0 f := ⟨Nat.le_refl _, Nat.zero_le _, fun h => absurd h (by omega)⟩
theorem Sl.alloc {w : World} {k : IntKind} {A : Option Addr} {n c : Nat} {f : Nat → Int} (h : Sl w k A n c f) (o : Obj) : Sl (w.alloc o) k A n c f :=
 h.below ((Below.refl w.heap.size w).alloc ν o) ν
theorem Sl.drew {w : World} {k : IntKind} {A : Option Addr} {n c : Nat} {f : Nat → Int} (h : Sl w k A n c f) : Sl w.drew k A n c f := h.below (Below.refl w.heap.size w).drew ν
def row (k : IntKind) (f : Nat → Int) (n : Nat) : List Value := (List.range n).map fun i => Value.int k (f i)
theorem Zd7 (k : IntKind) (f : Nat → Int) (n : Nat) : (row k f n).length = n := by simp [row]
theorem Zbx {k : IntKind} {f : Nat → Int} {n i : Nat} (h : i < n) : (row k f n)[i]? = some (.int k (f i)) := by simp [row, h]
theorem ZfB {k : IntKind} {f : Nat → Int} {n i : Nat} {u : Value} (h : (row k f n)[i]? = some u) : i < n ∧ u = .int k (f i) := by
 have hi : i < n := by
  rcases Nat.lt_or_ge i n with h1 | h1
  ·exact h1
  ·rw [List.getElem?_eq_none (by rw [Zd7]; exact h1)] at h; cases h
 rw [Zbx hi] at h
 exact ⟨hi, (Option.some.inj h).symm⟩
theorem ZhL (k : IntKind) (f : Nat → Int) (n : Nat) : row k f (n + 1) = row k f n ++ [.int k (f n)] := by simp [row, List.range_succ]
theorem Zc7 {k : IntKind} {f g : Nat → Int} {n : Nat} (h : ∀ i, i < n → f i = g i) : row k f n = row k g n := by
 unfold row
 exact List.map_congr_left fun i hi => by rw [h i (List.mem_range.1 hi)]
theorem Ziz (k : IntKind) (f : Nat → Int) (n : Nat) : ∀ u ∈ row k f n, u.oneCell' = true := by
 intro u hu
 simp only [row, List.mem_map] at hu
 obtain ⟨i, _, rfl⟩ := hu
 rfl
theorem Sl.of_own {w : World} {base : Nat} {e : TypeId} {k : IntKind} {v : Value} {n : Nat} {f : Nat → Int} (h : w.ownsRow base e 1 v n (row k f n)) : ∃ A c, v = .slice A n c ∧ Sl w k A n c f := by
 rcases h.2 with ⟨rfl, rfl⟩ | ⟨g, cap, cur, rfl, hg, hh, hn, hm, hs, ht⟩
 ·exact ⟨none, 0, rfl, Sl.none_⟩
 ·have hlt : g < w.heap.size := by
   rcases Nat.lt_or_ge g w.heap.size with h1 | h1
   ·exact h1
   ·rw [Array.getElem?_eq_none h1] at hh; cases hh
  refine ⟨_, cap, rfl, hn, hm, fun h0 => ⟨g, 0, rfl, hlt, fun i hi => ?_⟩⟩
  rw [Nat.zero_add, World.ownsRow.cellAt h i (by omega), Zbx hi]
theorem Sl.cells {w : World} {k : IntKind} {b off n c : Nat} {f : Nat → Int} (h : ∀ i, i < n → w.cell? ⟨b, off + i, none⟩ = some (.int k (f i))) : ∀ j u, (row k f n)[j]? = some u → w.cell? ((⟨b, off, none⟩ : Addr).add j) = some u := by
 intro j u hu
 obtain ⟨hj, rfl⟩ := ZfB hu
 rw [← h j hj]
 unfold Addr.add
 by_cases h0 : j = 0 <;> simp [h0]
theorem Sl.take {w : World} {k : IntKind} {A : Option Addr} {n c m : Nat} {f : Nat → Int} (h : Sl w k A n c f) (hm : m ≤ n) : Sl w k A m m f :=
 ⟨Nat.le_refl _, Nat.le_trans hm (Nat.le_trans h.cap h.max), fun h0 => by
  obtain ⟨b, off, e, hlt, hc⟩ := h.at_ (by omega)
  exact ⟨b, off, e, hlt, fun i hi => hc i (by omega)⟩⟩
theorem Sl.take_cap {w : World} {k : IntKind} {A : Option Addr} {n c m : Nat} {f : Nat → Int} (h : Sl w k A n c f) (hm : m ≤ n) : Sl w k A m c f :=
 ⟨Nat.le_trans hm h.cap, h.max, fun h0 => by
  obtain ⟨b, off, e, hlt, hc⟩ := h.at_ (by omega)
  exact ⟨b, off, e, hlt, fun i hi => hc i (by omega)⟩⟩
theorem Jt (w : World) (v : Value) (t : TypeId) : ∀ j u, [v][j]? = some u → (w.alloc (.cells #[v] t)).cell? ((⟨w.heap.size, 0, none⟩ : Addr).add j) = some u := by
 intro j u hj
 match j, hj with
 | 0, hj => simp at hj; subst hj; simp [Addr.add]
theorem JC (k : IntKind) (x : Int) : ∀ u ∈ [Value.int k x], u.oneCell' = true := by intro u hu; simp at hu; subst hu; rfl
theorem ZaF {w : World} {base : Nat} {e : TypeId} {k : IntKind} {v : Value} {n : Nat} {f : Nat → Int} {y : Int} (h : w.ownsRow base e 1 v (n + 1) (row k f n ++ [.int k y])) (hy : y = f n) : w.ownsRow base e 1 v (n + 1) (row k f (n + 1)) := by
 subst hy; rw [ZhL]; exact h
theorem JR {w : World} {base : Nat} {e : TypeId} {size n : Nat} {v : Value} {xs : List Value} (h : w.ownsRow base e size v n xs) : ∀ k, v.ownBlock = some k → base ≤ k := fun k hk => (h.lt k hk).1
def upd (r : Nat → Int) (k : Nat) : Nat → Int := fun i => if i < k then r i else 0
theorem ZiA {k : IntKind} {r : Nat → Int} {n j : Nat} {y : Int} (hy : y = r j) (hj : j < n) : (row k (upd r j) n).set j (.int k y) = row k (upd r (j + 1)) n := by
 subst hy
 apply List.ext_getElem
 ·simp [row]
 ·intro i h1 h2
  rw [List.getElem_set]
  simp only [row, List.getElem_map, List.getElem_range, upd]
  by_cases h : j = i
  ·subst h; simp
  ·rw [if_neg h]
   by_cases h3 : i < j
   ·rw [if_pos h3, if_pos (by omega)]
   ·rw [if_neg h3, if_neg (by omega)]
theorem ZcN (k : IntKind) (r : Nat → Int) (n : Nat) : List.replicate n (Value.int k 0) = row k (upd r 0) n := by
 apply List.ext_getElem
 ·simp [row]
 ·intro i h1 h2
  simp [row, upd]
theorem ZcD {k : IntKind} {r : Nat → Int} {n : Nat} : row k (upd r n) n = row k r n := Zc7 fun i hi => by simp [upd, hi]
theorem ZaG {w : World} {p q : Addr} {v u : Value} (h : w.cell? q = some u) (hne : q.block ≠ p.block) : ((w.setCell p v).drew).cell? q = some u := by
 rw [World.cell?_drew, World.cell?_setCell_other _ _ _ _ (fun e => hne (by rw [e]))]; exact h
theorem ZdW {w : World} {base : Nat} {e : TypeId} {k : IntKind} {g n c j : Nat} {r : Nat → Int} {y : Int} (h : w.ownsRow base e 1 (.slice (some ⟨g, 0, none⟩) n c) n (row k (upd r j) n)) (hy : y = r j) (hj : j < n) :
  (w.setCell ⟨g, j, none⟩ (.int k y)).ownsRow base e 1 (.slice (some ⟨g, 0, none⟩) n c) n (row k (upd r (j + 1)) n) := by
 rw [← ZiA hy hj]; exact (World.ownsRow.stored h j _).1
theorem ZfC {k : IntKind} {f g : Nat → Int} {n j : Nat} {y : Int} (hy : y = g j) (he : ∀ i, i < n → i ≠ j → f i = g i) : (row k f n).set j (.int k y) = row k g n := by
 subst hy
 apply List.ext_getElem
 ·simp [row]
 ·intro i h1 h2
  rw [List.getElem_set]
  simp only [row, List.getElem_map, List.getElem_range]
  simp [row] at h2
  by_cases h : j = i
  ·subst h; simp
  ·rw [if_neg h, he i h2 (by omega)]
theorem Zdz {w : World} {base : Nat} {e : TypeId} {k : IntKind} {b n c j : Nat} {f g : Nat → Int} {y : Int} (h : w.ownsRow base e 1 (.slice (some ⟨b, 0, none⟩) n c) n (row k f n)) (hy : y = g j) (he : ∀ i, i < n → i ≠ j → f i = g i) :
  (w.setCell ⟨b, j, none⟩ (.int k y)).ownsRow base e 1 (.slice (some ⟨b, 0, none⟩) n c) n (row k g n) := by
 rw [← ZfC hy he]; exact (World.ownsRow.stored h j _).1
theorem Zc8 {w : World} {base : Nat} {e : TypeId} {k : IntKind} {v : Value} {n : Nat} {f g : Nat → Int} (h : w.ownsRow base e 1 v n (row k f n)) (he : ∀ i, i < n → f i = g i) : w.ownsRow base e 1 v n (row k g n) := by
 rw [← Zc7 he]; exact h
theorem ZcO {w : World} {base : Nat} {e : TypeId} {k : IntKind} {b n c j : Nat} {f : Nat → Int} (h : w.ownsRow base e 1 (.slice (some ⟨b, 0, none⟩) n c) n (row k f n)) (hj : j < n) : w.cell? ⟨b, j, none⟩ = some (.int k (f j)) := by
 rw [World.ownsRow.cellAt h j (by omega), Zbx hj]
def Bx (w : World) (b : Nat) (cs : Array Value) (t : TypeId) : Prop := w.heap[b]? = some (.cells cs t (0, 0))
theorem Bx.lt {w : World} {b : Nat} {cs : Array Value} {t : TypeId} (h : Bx w b cs t) : b < w.heap.size := by
 rcases Nat.lt_or_ge b w.heap.size with h1 | h1
 ·exact h1
 ·unfold Bx at h; rw [Array.getElem?_eq_none h1] at h; cases h
theorem Bx.below {w w' : World} {b B : Nat} {cs : Array Value} {t : TypeId} (h : Bx w b cs t) (hb : Below B w w') (hB : w.heap.size ≤ B) : Bx w' b cs t :=
 (hb.block b (Nat.lt_of_lt_of_le h.lt hB)).trans h
theorem Bx.new (w : World) (cs : Array Value) (t : TypeId) : Bx (w.alloc (.cells cs t)) w.heap.size cs t := heap_alloc_new _ _
theorem Bx.alloc {w : World} {b : Nat} {cs : Array Value} {t : TypeId} (h : Bx w b cs t) (o : Obj) : Bx (w.alloc o) b cs t := h.below ((Below.refl w.heap.size w).alloc ν o) ν
theorem Bx.cell {w : World} {b : Nat} {cs : Array Value} {t : TypeId} (h : Bx w b cs t) (i : Nat) {v : Value} (hi : cs[i]? = some v) : w.cell? ⟨b, i, none⟩ = some v := by
 unfold Bx at h; simp [World.cell?, h, hi]
theorem Bx.free {w : World} {b : Nat} {cs : Array Value} {t : TypeId} (h : Bx w b cs t) (i : Nat) : w.frozen? ⟨b, i, none⟩ = false := by
 unfold Bx at h; simp [World.frozen?, h]
theorem Bx.set {w : World} {b : Nat} {cs : Array Value} {t : TypeId} (h : Bx w b cs t) (i : Nat) (v : Value) : Bx (w.setCell ⟨b, i, none⟩ v) b (cs.setIfInBounds i v) t := heap_setCell_same _ _ _ _ _ _ h
theorem Bx.other {w : World} {b : Nat} {cs : Array Value} {t : TypeId} (h : Bx w b cs t) {a : Addr} (v : Value) (hne : b ≠ a.block) : Bx (w.setCell a v) b cs t := (heap_setCell_other w a b v hne).trans h
theorem Jc {w : World} {p a : Addr} {v u : Value} (h : w.cell? a = some u) (hne : a.block ≠ p.block) : (w.setCell p v).cell? a = some u := by
 rw [World.cell?_setCell_other _ _ _ _ (fun e => hne (by rw [e]))]; exact h
theorem Zah {w : World} {b o : Nat} {v : Value} (h : w.cell? ⟨b, o, none⟩ = some v) : b < w.heap.size := block_lt_of_cell h
theorem Sl.set {w : World} {k : IntKind} {A : Option Addr} {n c b o : Nat} {f : Nat → Int} {cs : Array Value} {t : TypeId} {v : Value} (h : Sl w k A n c f) (hb : Bx w b cs t) (hne : ∀ u ∈ cs.toList, ∀ x, u ≠ .int k x) : Sl (w.setCell ⟨b, o, none⟩ v) k A n c f :=
 ⟨h.cap, h.max, fun h0 => by
  obtain ⟨b', off, e, hlt, hc⟩ := h.at_ h0
  have hbb : b' ≠ b := fun e2 => by
   subst e2
   have h1 := hc 0 h0
   unfold Bx at hb
   simp [World.cell?, hb] at h1
   exact hne _ (by simpa using Array.mem_of_getElem? h1) _ rfl
  refine ⟨b', off, e, by simpa [World.setCell] using hlt, fun i hi => ?_⟩
  exact Jc (hc i hi) hbb⟩
theorem J8 {w w' : World} {o : Obj} (h : Below w.heap.size w w') : Below w.heap.size w (w'.alloc o) := h.alloc h.size o
theorem J9 {w w' : World} {b i : Nat} {v : Value} (hp : w.heap.size ≤ b) (h : Below w.heap.size w w') : Below w.heap.size w (w'.setCell ⟨b, i, none⟩ v) := h.setCell hp v
theorem J6 {w w' w'' : World} (h : Below w.heap.size w w') (b : Below w'.heap.size w' w'') : Below w.heap.size w w'' := h.trans (b.mono h.size)
theorem Jb {w : World} {b : Nat} {cs : Array Value} {t : TypeId} (h : b = w.heap.size) : Bx (w.alloc (.cells cs t)) b cs t := by subst h; exact Bx.new w cs t
theorem Jj {w : World} {b : Nat} {cs : Array Value} {t : TypeId} {o : Obj} (h : Bx w b cs t) : Bx (w.alloc o) b cs t := h.alloc o
theorem Jg {w w' : World} {b : Nat} {cs : Array Value} {t : TypeId} (h : Bx w b cs t) (hb : Below w.heap.size w w') : Bx w' b cs t := h.below hb ν
theorem Jf {w : World} {b : Nat} {cs : Array Value} {t : TypeId} (h : Bx w b cs t) : Bx w.drew b cs t := h
theorem Jl {w : World} {b b' i : Nat} {cs : Array Value} {t : TypeId} {v : Value} (hne : b ≠ b') (h : Bx w b cs t) : Bx (w.setCell ⟨b', i, none⟩ v) b cs t := h.other v hne
theorem Jd {w : World} {b : Nat} {z0 z1 v0 v1 : Value} {t : TypeId} (h : Bx w b #[z0, z1] t) : Bx ((w.setCell ⟨b, 0, none⟩ v0).setCell ⟨b, 1, none⟩ v1) b #[v0, v1] t := (h.set 0 v0).set 1 v1
theorem Ji {w : World} {b : Nat} {z0 z1 z2 z3 v0 v1 v2 v3 : Value} {t : TypeId} (h : Bx w b #[z0, z1, z2, z3] t) : Bx ((((w.setCell ⟨b, 0, none⟩ v0).setCell ⟨b, 1, none⟩ v1).setCell ⟨b, 2, none⟩ v2).setCell ⟨b, 3, none⟩ v3) b #[v0, v1, v2, v3] t := (((h.set 0 v0).set 1 v1).set 2 v2).set 3 v3
theorem Zav {w : World} {b : Nat} {z v0 v1 v2 v3 v4 v5 : Value} {t : TypeId} (h : Bx w b #[z, z, z, z, z, z] t) : Bx ((((((w.setCell ⟨b, 0, none⟩ v0).setCell ⟨b, 1, none⟩ v1).setCell ⟨b, 2, none⟩ v2).setCell ⟨b, 3, none⟩ v3).setCell ⟨b, 4, none⟩ v4).setCell ⟨b, 5, none⟩ v5) b #[v0, v1, v2, v3, v4, v5] t :=
 (((((h.set 0 v0).set 1 v1).set 2 v2).set 3 v3).set 4 v4).set 5 v5
theorem Zb4 {w : World} {A : Option Addr} {n c b : Nat} {f : Nat → Int} {t : TypeId} {A0 A1 A2 A3 A4 A5 : Option Addr} {n0 n1 n2 n3 n4 n5 c0 c1 c2 c3 c4 c5 : Nat} (hb : Bx w b #[.slice none 0 0, .slice none 0 0, .slice none 0 0, .slice none 0 0, .slice none 0 0, .slice none 0 0] t) (h : Sl w .u64 A n c f) :
  Sl ((((((w.setCell ⟨b, 0, none⟩ (.slice A0 n0 c0)).setCell ⟨b, 1, none⟩ (.slice A1 n1 c1)).setCell ⟨b, 2, none⟩ (.slice A2 n2 c2)).setCell ⟨b, 3, none⟩ (.slice A3 n3 c3)).setCell ⟨b, 4, none⟩ (.slice A4 n4 c4)).setCell ⟨b, 5, none⟩ (.slice A5 n5 c5)) .u64 A n c f :=
 (((((h.set hb (by simp)).set (hb.set 0 _) (by simp)).set ((hb.set 0 _).set 1 _) (by simp)).set (((hb.set 0 _).set 1 _).set 2 _) (by simp)).set ((((hb.set 0 _).set 1 _).set 2 _).set 3 _) (by simp)).set (((((hb.set 0 _).set 1 _).set 2 _).set 3 _).set 4 _) (by simp)
theorem Zcs {w : World} {k : IntKind} {A : Option Addr} {n c : Nat} {f : Nat → Int} {o : Obj} (h : Sl w k A n c f) : Sl (w.alloc o) k A n c f := h.alloc o
theorem Ja {w w' : World} (h : Below w.heap.size w w') : Below w.heap.size w w'.drew := h.drew
theorem J0 {w : World} : Below w.heap.size w w := Below.refl _ _
theorem Zct {w : World} {k : IntKind} {A : Option Addr} {n c : Nat} {f : Nat → Int} (h : Sl w k A n c f) : Sl w.drew k A n c f := h.drew
theorem Zby {w w' : World} {k : IntKind} {A : Option Addr} {n c : Nat} {f : Nat → Int} (h : Sl w k A n c f) (hb : Below w.heap.size w w') : Sl w' k A n c f := h.below hb ν
theorem Jh {T Q : Prop} (h : T) (k : T → Q) : Q := k h
theorem Je (w : World) : Below w.heap.size w w.drew := (Below.refl _ _).drew
end Go.Proofs.YtjdiilkljgljkaaGreatDoor
namespace Go.Proofs.YtjdiilkljgljkaaGreatDoor
set_option linter.unusedVariables false
set_option linter.unusedSimpArgs false
open Go.RowKit Wd
def byt (x : Int) (i : Nat) : Int := x / 256 ^ i % 256
def bytL (x : Int) (k : Nat) : List Int := (List.range k).map (byt x)
def le8 (x : Int) : List Int := bytL x 8
theorem ZdX (x : Int) (k : Nat) : bytL x (k + 1) = bytL x k ++ [byt x k] := by simp [bytL, List.range_succ]
theorem ZcP (x : Int) (k : Nat) : (bytL x k).length = k := by simp [bytL]
theorem ZaH (x : Int) : (le8 x).length = 8 := ZcP x 8
def ptB (x y : Int) : List Int := le8 (lo x) ++ le8 (lo y)
theorem Zcu (x y : Int) : (ptB x y).length = 16 := by simp [ptB, ZaH]
def ptsB (f g : Nat → Int) : Nat → List Int
 | 0 => []
 | k + 1 => ptsB f g k ++ ptB (f k) (g k)
theorem JP (f g : Nat → Int) : ∀ k, (ptsB f g k).length = 16 * k
 | 0 => rfl
 | k + 1 => by rw [ptsB, List.length_append, JP f g k, Zcu]; omega
def Jz (l : List Int) : List Value := l.map (Value.int .u8)
theorem Zd8 (l k : List Int) : Jz (l ++ k) = Jz l ++ Jz k := by simp [Jz]
def OwB (w : World) (base : Nat) (v : Value) (l : List Int) : Prop := w.ownsRow base 5 1 v l.length (Jz l)
theorem OwB.snoc {w : World} {base : Nat} {v : Value} {l : List Int} {n : Nat} {y : Int} (h : w.ownsRow base 5 1 v n (Jz l ++ [.int .u8 y])) (hn : n = l.length + 1) : OwB w base v (l ++ [y]) := by
 subst hn; unfold OwB; rw [Zd8]; simpa [Jz] using h
theorem OwB.alloc {w : World} {base : Nat} {v : Value} {l : List Int} (h : OwB w base v l) (o : Obj) : OwB (w.alloc o) base v l := World.ownsRow.alloc h o
theorem OwB.mono {w : World} {base base' : Nat} {v : Value} {l : List Int} (h : OwB w base v l) (hb : base' ≤ base) : OwB w base' v l := by
 refine ⟨h.1, ?_⟩
 rcases h.2 with h | ⟨g, c, cur, e1, e2, e3⟩
 ·exact .inl h
 ·exact .inr ⟨g, c, cur, e1, Nat.le_trans hb e2, e3⟩
theorem OwB.below {w w' : World} {base B : Nat} {v : Value} {l : List Int} (h : OwB w base v l) (hb : Below B w w') (hB : w.heap.size ≤ B) : OwB w' base v l := by
 refine ⟨h.1, ?_⟩
 rcases h.2 with h | ⟨g, c, cur, e1, e2, e3, e4⟩
 ·exact .inl h
 ·exact .inr ⟨g, c, cur, e1, e2, (hb.block g (by have := (Array.getElem?_eq_some_iff.1 e3).1; omega)).trans e3, e4⟩
theorem OwB.drew {w : World} {base : Nat} {v : Value} {l : List Int} (h : OwB w base v l) : OwB w.drew base v l := h.below (Below.refl w.heap.size w).drew ν
theorem OwB.slice {w : World} {base : Nat} {v : Value} {l : List Int} (h : OwB w base v l) : ∃ A c, v = .slice A l.length c := by
 rcases h.2 with ⟨rfl, h0⟩ | ⟨g, c, cur, rfl, _⟩
 ·rw [h0]; exact ⟨none, 0, rfl⟩
 ·exact ⟨_, _, rfl⟩
structure By (w : World) (A : Option Addr) (c : Nat) (l : List Int) : Prop where
 cap : l.length ≤ c
 max : c ≤ maxLen
 at_ : 0 < l.length → ∃ b off, A = some ⟨b, off, none⟩ ∧ b < w.heap.size ∧ ∀ i x, l[i]? = some x → w.cell? ⟨b, off + i, none⟩ = some (.int .u8 x)
theorem By.below {w w' : World} {B : Nat} {A : Option Addr} {c : Nat} {l : List Int} (h : By w A c l) (hb : Below B w w') (hB : w.heap.size ≤ B) : By w' A c l :=
 ⟨h.cap, h.max, fun hn => by
  obtain ⟨b, off, e, hlt, hc⟩ := h.at_ hn
  exact ⟨b, off, e, Nat.lt_of_lt_of_le hlt hb.size, fun i x hi => (hb.cell (p := ⟨b, off + i, none⟩) (by show b < B; omega)).trans (hc i x hi)⟩⟩
theorem By.alloc {w : World} {A : Option Addr} {c : Nat} {l : List Int} (h : By w A c l) (o : Obj) : By (w.alloc o) A c l :=
 h.below ((Below.refl w.heap.size w).alloc ν o) ν
theorem By.drew {w : World} {A : Option Addr} {c : Nat} {l : List Int} (h : By w A c l) : By w.drew A c l := h.below (Below.refl w.heap.size w).drew ν
theorem OwB.by {w : World} {base : Nat} {v : Value} {l : List Int} (h : OwB w base v l) : ∃ A c, v = .slice A l.length c ∧ By w A c l := by
 rcases h.2 with ⟨rfl, h0⟩ | ⟨g, c, cur, rfl, h1, h2, h3, h4, h5, h6⟩
 ·rw [h0]; exact ⟨none, 0, rfl, by omega, Nat.zero_le _, fun h => by omega⟩
 ·refine ⟨_, c, rfl, h3, h4, fun _ => ⟨g, 0, rfl, (Array.getElem?_eq_some_iff.1 h2).1, fun i x hi => ?_⟩⟩
  have hlt : i < l.length := (List.getElem?_eq_some_iff.1 hi).1
  have : (Jz l)[i]? = some (.int .u8 x) := by simp [Jz, hi]
  rw [Nat.zero_add, World.ownsRow.cellAt h i (by omega), this]
structure Fr (base : Nat) (ex : Option Nat) (w w' : World) : Prop where
 below : Below base w w'
 keep : ∀ b cs t, t ≠ 5 → some b ≠ ex → Bx w b cs t → Bx w' b cs t
theorem Fr.refl (base : Nat) (ex : Option Nat) (w : World) : Fr base ex w w := ⟨Below.refl _ _, fun _ _ _ _ _ h => h⟩
theorem Fr.trans {base : Nat} {ex : Option Nat} {a b c : World} (h : Fr base ex a b) (k : Fr base ex b c) : Fr base ex a c :=
 ⟨h.below.trans k.below, fun b cs t h1 h2 h3 => k.keep b cs t h1 h2 (h.keep b cs t h1 h2 h3)⟩
theorem Fr.drew {base : Nat} {ex : Option Nat} {a w : World} (h : Fr base ex a w) : Fr base ex a w.drew := ⟨h.below.drew, fun b cs t h1 h2 h3 => h.keep b cs t h1 h2 h3⟩
theorem Fr.of_below {base : Nat} {ex : Option Nat} {a b : World} (h : Below a.heap.size a b) (hb : base ≤ a.heap.size) : Fr base ex a b :=
 ⟨h.mono hb, fun _ _ _ _ _ h3 => h3.below h ν⟩
theorem Fr.alloc {base : Nat} {ex : Option Nat} {a w : World} (h : Fr base ex a w) (hb : base ≤ w.heap.size) (o : Obj) : Fr base ex a (w.alloc o) :=
 h.trans (Fr.of_below ((Below.refl w.heap.size w).alloc ν o) hb)
theorem Fr.some {base k : Nat} {a b : World} (h : Fr base none a b) : Fr base (Option.some k) a b := ⟨h.below, fun b cs t h1 _ h3 => h.keep b cs t h1 (by simp) h3⟩
theorem Fr.mono {base base' : Nat} {ex : Option Nat} {a b : World} (h : Fr base ex a b) (hb : base' ≤ base) : Fr base' ex a b := ⟨h.below.mono hb, h.keep⟩
theorem Fr.size {base : Nat} {ex : Option Nat} {a b : World} (h : Fr base ex a b) : a.heap.size ≤ b.heap.size := h.below.size
theorem Jv {w : World} {base : Nat} {e : TypeId} {k n : Nat} {v : Value} {xs : List Value} (h : w.ownsRow base e k v n xs) {g : Nat} (hg : v.ownBlock = Option.some g) : base ≤ g ∧ ∃ cur, Bx w g cur e := by
 rcases h.2 with ⟨rfl, _⟩ | ⟨g', cap, cur, rfl, h1, h2, _⟩
 ·simp [Value.ownBlock] at hg
 ·obtain rfl : g' = g := by simpa [Value.ownBlock] using hg
  exact ⟨h1, cur, h2⟩
theorem Fr.grown {base n : Nat} {ex : Option Nat} {a w w' : World} {v : Value} {xs : List Value} (h : Fr base ex a w) (hg : w.grownBy w' v.ownBlock) (ho : w.ownsRow base 5 1 v n xs) (hb : base ≤ w.heap.size) : Fr base ex a w' :=
 ⟨h.below.grown hg hb (fun k e => (Jv ho e).1), fun b cs t h1 h2 h3 => by
  have h4 := h.keep b cs t h1 h2 h3
  refine (hg.block b h4.lt fun e => ?_).trans h4
  obtain ⟨_, cur, h5⟩ := Jv ho e.symm
  have := (show w.heap[b]? = _ from h4).symm.trans h5
  simp at this
  exact h1 this.2⟩
theorem Fr.setEx {base k i : Nat} {a w : World} {v : Value} (h : Fr base (Option.some k) a w) (hk : base ≤ k) : Fr base (Option.some k) a (w.setCell ⟨k, i, none⟩ v) :=
 ⟨h.below.setCell (p := ⟨k, i, none⟩) hk v, fun b cs t h1 h2 h3 => (h.keep b cs t h1 h2 h3).other v (by simpa using h2)⟩
theorem OwB.setOther {w : World} {base b i : Nat} {v x : Value} {l : List Int} {cs : Array Value} {t : TypeId} (h : OwB w base v l) (hb : Bx w b cs t) (ht : t ≠ 5) : OwB (w.setCell ⟨b, i, none⟩ x) base v l := by
 refine ⟨h.1, ?_⟩
 rcases h.2 with h | ⟨g, c, cur, e1, e2, e3, e4⟩
 ·exact .inl h
 ·refine .inr ⟨g, c, cur, e1, e2, (Bx.other e3 _ fun e => ?_), e4⟩
  obtain rfl : g = b := e
  have := (show w.heap[g]? = _ from hb).symm.trans e3
  simp at this
  exact ht this.2
theorem ZaT {w w' : World} {base n b : Nat} {v : Value} {xs : List Value} {cs : Array Value} {t : TypeId} (h : Bx w b cs t) (ht : t ≠ 5) (hg : w.grownBy w' v.ownBlock) (ho : w.ownsRow base 5 1 v n xs) : Bx w' b cs t := by
 refine (hg.block b h.lt fun e => ?_).trans h
 obtain ⟨_, cur, h5⟩ := Jv ho e.symm
 have := (show w.heap[b]? = _ from h).symm.trans h5
 simp at this
 exact ht this.2
theorem Zbh : (Tryz.prog.info? 5).map (fun i => (i.zero, i.size, i.bytes)) = some (some (.int .u8 0), 1, 1) := by kernel_rfl
end Go.Proofs.YtjdiilkljgljkaaGreatDoor
namespace Go.Proofs.YtjdiilkljgljkaaGreatDoor
set_option linter.unusedVariables false
set_option linter.unusedSimpArgs false
namespace Wd
def S (i : Nat) : Int := 18446744073709551616 ^ i
def qt (x : Int) (i : Nat) : Int := x / S i
def lmb (x : Int) (i : Nat) : Int := qt x i % 18446744073709551616
def Fit (n : Nat) (x : Int) : Prop := -S n ≤ 2 * x ∧ 2 * x < S n
theorem S_zero : S 0 = 1 := rfl
theorem S_succ (i : Nat) : S (i + 1) = S i * 18446744073709551616 := Int.pow_succ _ _
theorem S_pos (i : Nat) : 0 < S i := by
 induction i with
 | zero => rw [S_zero]; omega
 | succ n ih => rw [S_succ]; omega
theorem S_add (i j : Nat) : S (i + j) = S i * S j := Int.pow_add _ _ _
theorem S_le {i j : Nat} (h : i ≤ j) : S i ≤ S j := by
 induction j with
 | zero => rw [show i = 0 from by omega]; exact Int.le_refl _
 | succ n ih =>
  by_cases hi : i ≤ n
  ·have := ih hi; have := S_pos n; rw [S_succ]; omega
  ·rw [show i = n + 1 from by omega]; exact Int.le_refl _
theorem qt_zero (x : Int) : qt x 0 = x := by unfold qt; rw [S_zero, Int.ediv_one]
theorem qt_succ (x : Int) (i : Nat) : qt x (i + 1) = qt x i / 18446744073709551616 := by
 unfold qt; rw [S_succ, Int.ediv_ediv_of_nonneg (Int.le_of_lt (S_pos i))]
theorem qt_add_mul (x t : Int) (i : Nat) : qt (x + t * S i) i = qt x i + t := by
 unfold qt; exact Int.add_mul_ediv_right x t (Int.ne_of_gt (S_pos i))
theorem isW_lmb (x : Int) (i : Nat) : IsW (lmb x i) := by unfold IsW lmb; omega
theorem lmb_zero (i : Nat) : lmb 0 i = 0 := by simp [lmb, qt]
theorem lmb_cong (x t : Int) {n i : Nat} (h : i < n) : lmb (x + t * S n) i = lmb x i := by
 obtain ⟨k, rfl⟩ : ∃ k, n = i + (k + 1) := ⟨n - i - 1, by omega⟩
 have e : t * S (i + (k + 1)) = (t * S k * 18446744073709551616) * S i := by
  rw [S_add, S_succ, Int.mul_comm (S i), ← Int.mul_assoc, ← Int.mul_assoc]
 unfold lmb
 rw [e, qt_add_mul]
 omega
theorem fit_qt {n : Nat} {x : Int} (h : Fit n x) {i : Nat} (hi : n ≤ i) : qt x i = if x < 0 then -1 else 0 := by
 have h1 := S_pos n
 have h2 := S_le hi
 have h3 := S_pos i
 unfold Fit at h
 unfold qt
 split
 ·exact (Int.ediv_eq_iff_of_pos h3).2 ⟨by omega, by omega⟩
 ·exact Int.ediv_eq_zero_of_lt (by omega) (by omega)
theorem lmb_fill {n : Nat} {x : Int} (h : Fit n x) {i : Nat} (hi : n ≤ i) : lmb x i = msk (decide (x < 0)) := by
 unfold lmb msk
 rw [fit_qt h hi]
 by_cases h0 : x < 0 <;> simp [h0]
theorem fit_top {n : Nat} {x : Int} (h : Fit (n + 1) x) : -9223372036854775808 ≤ qt x n ∧ qt x n < 9223372036854775808 := by
 have h1 := S_pos n
 unfold Fit at h
 rw [S_succ] at h
 unfold qt
 constructor
 ·exact Int.le_ediv_of_mul_le h1 (by omega)
 ·exact Int.ediv_lt_of_lt_mul h1 (by omega)
theorem qt_neg {x : Int} {n : Nat} : qt x n < 0 ↔ x < 0 := by
 have h1 := S_pos n
 unfold qt
 constructor
 ·intro h
  rcases (by omega : x < 0 ∨ 0 ≤ x) with h0 | h0
  ·exact h0
  ·have := Int.ediv_nonneg h0 (Int.le_of_lt h1); omega
 ·intro h; exact Int.ediv_neg_of_neg_of_pos h h1
theorem top_neg {n : Nat} {x : Int} (h : Fit (n + 1) x) : 9223372036854775808 ≤ lmb x n ↔ x < 0 := by
 have h1 := fit_top h
 have h2 := qt_neg (x := x) (n := n)
 unfold lmb
 omega
def car (x y : Int) (i : Nat) : Int := qt (x + y) i - qt x i - qt y i
theorem car_zero (x y : Int) : car x y 0 = 0 := by unfold car; rw [qt_zero, qt_zero, qt_zero]; omega
theorem car_le (x y : Int) (i : Nat) : 0 ≤ car x y i ∧ car x y i ≤ 1 := by
 induction i with
 | zero => rw [car_zero]; omega
 | succ n ih => unfold car at *; rw [qt_succ, qt_succ, qt_succ]; omega
theorem add_step (x y : Int) (i : Nat) : lo (lmb x i + lmb y i + car x y i % 2) = lmb (x + y) i ∧ (lmb x i + lmb y i + car x y i % 2) / 18446744073709551616 = car x y (i + 1) := by
 have h := car_le x y i
 have e : car x y (i + 1) = qt (x + y) i / 18446744073709551616 - qt x i / 18446744073709551616 - qt y i / 18446744073709551616 := by unfold car; rw [qt_succ, qt_succ, qt_succ]
 rw [e]
 unfold car at h
 unfold lo lmb car
 omega
def brw (x y : Int) (i : Nat) : Int := qt x i - qt y i - qt (x - y) i
theorem brw_zero (x y : Int) : brw x y 0 = 0 := by unfold brw; rw [qt_zero, qt_zero, qt_zero]; omega
theorem brw_le (x y : Int) (i : Nat) : 0 ≤ brw x y i ∧ brw x y i ≤ 1 := by
 induction i with
 | zero => rw [brw_zero]; omega
 | succ n ih => unfold brw at *; rw [qt_succ, qt_succ, qt_succ]; omega
theorem sub_step (x y : Int) (i : Nat) : lo (lmb x i - lmb y i - brw x y i % 2) = lmb (x - y) i ∧ bor (lmb x i) (lmb y i) (brw x y i % 2) = brw x y (i + 1) := by
 have h := brw_le x y i
 have e : brw x y (i + 1) = qt x i / 18446744073709551616 - qt y i / 18446744073709551616 - qt (x - y) i / 18446744073709551616 := by unfold brw; rw [qt_succ, qt_succ, qt_succ]
 rw [e]
 unfold brw at h
 unfold lo lmb bor brw
 refine ⟨by omega, ?_⟩
 split <;> omega
theorem isW_car (x y : Int) (i : Nat) : IsW (car x y i) := by have := car_le x y i; unfold IsW; omega
theorem isW_brw (x y : Int) (i : Nat) : IsW (brw x y i) := by have := brw_le x y i; unfold IsW; omega
def prt (x y : Int) (i : Nat) : Int := (x - qt x i * S i) * y
theorem prt_zero (x y : Int) : prt x y 0 = 0 := by unfold prt; rw [qt_zero, S_zero, Int.mul_one, Int.sub_self, Int.zero_mul]
theorem prt_succ (x y : Int) (i : Nat) : prt x y (i + 1) = prt x y i + lmb x i * y * S i := by
 unfold prt lmb
 rw [qt_succ, S_succ]
 have e : qt x i = qt x i / 18446744073709551616 * 18446744073709551616 + qt x i % 18446744073709551616 := by omega
 generalize qt x i / 18446744073709551616 = u at *
 generalize qt x i % 18446744073709551616 = v at *
 rw [e, Int.sub_mul, Int.sub_mul, Int.add_mul, Int.add_mul]
 have e1 : u * (S i * 18446744073709551616) = u * 18446744073709551616 * S i := by rw [Int.mul_assoc, Int.mul_comm (S i), ← Int.mul_assoc]
 have e2 : v * y * S i = v * S i * y := by rw [Int.mul_assoc, Int.mul_comm y, ← Int.mul_assoc]
 rw [e1, e2]
 omega
theorem prt_last (x y : Int) {n k : Nat} (h : k < n) : lmb (prt x y n) k = lmb (x * y) k := by
 have e : prt x y n = x * y + (-(qt x n * y)) * S n := by
  unfold prt; rw [Int.sub_mul, Int.neg_mul, Int.mul_assoc (qt x n), Int.mul_comm (S n), ← Int.mul_assoc]; omega
 rw [e, lmb_cong _ _ h]
def kar (x y : Int) (i j : Nat) : Int := qt (prt x y (i + 1)) (i + j) - qt (prt x y i) (i + j) - lmb x i * qt y j
theorem kar_zero (x y : Int) (i : Nat) : kar x y i 0 = 0 := by
 unfold kar; rw [prt_succ, Nat.add_zero, qt_add_mul, qt_zero]; omega
theorem mul_core {a p y k Q : Int} (ha : IsW a) (hk : IsW k) (hQ : Q - p - a * y = k) :
  lo (a * (y % 18446744073709551616) + p % 18446744073709551616 + k) = Q % 18446744073709551616 ∧
  hi (a * (y % 18446744073709551616) + p % 18446744073709551616 + k) = Q / 18446744073709551616 - p / 18446744073709551616 - a * (y / 18446744073709551616) ∧
  IsW (Q / 18446744073709551616 - p / 18446744073709551616 - a * (y / 18446744073709551616)) := by
 have e : y = y / 18446744073709551616 * 18446744073709551616 + y % 18446744073709551616 := by omega
 have hy : IsW (y % 18446744073709551616) := by unfold IsW; omega
 have hp := isW_lt_mul ha hy
 have e2 : a * y = a * (y / 18446744073709551616) * 18446744073709551616 + a * (y % 18446744073709551616) := by
  conv => lhs; rw [e]
  rw [Int.mul_add, Int.mul_assoc]
 rw [e2] at hQ
 generalize a * (y / 18446744073709551616) = u at *
 generalize a * (y % 18446744073709551616) = v at *
 unfold IsW lo hi at *
 omega
theorem kar_step (x y : Int) (i j : Nat) (hk : IsW (kar x y i j)) :
  lo (lmb x i * lmb y j + lmb (prt x y i) (i + j) + kar x y i j) = lmb (prt x y (i + 1)) (i + j) ∧
  hi (lmb x i * lmb y j + lmb (prt x y i) (i + j) + kar x y i j) = kar x y i (j + 1) ∧ IsW (kar x y i (j + 1)) := by
 have h := mul_core (a := lmb x i) (p := qt (prt x y i) (i + j)) (y := qt y j) (k := kar x y i j) (Q := qt (prt x y (i + 1)) (i + j)) (isW_lmb x i) hk rfl
 have e : kar x y i (j + 1) = qt (prt x y (i + 1)) (i + j) / 18446744073709551616 - qt (prt x y i) (i + j) / 18446744073709551616 - lmb x i * (qt y j / 18446744073709551616) := by
  unfold kar; rw [← Nat.add_assoc, qt_succ, qt_succ, qt_succ]
 rw [e]
 exact h
theorem isW_kar (x y : Int) (i j : Nat) : IsW (kar x y i j) := by
 induction j with
 | zero => rw [kar_zero]; unfold IsW; omega
 | succ n ih => exact (kar_step x y i n ih).2.2
theorem prt_low (x y : Int) {i k : Nat} (h : k < i) : lmb (prt x y (i + 1)) k = lmb (prt x y i) k := by
 rw [prt_succ, lmb_cong _ _ h]
theorem qt_eq_of_lmb {x y : Int} : ∀ {n : Nat}, (∀ i, i < n → lmb x i = lmb y i) → ∃ t, x - y = t * S n
 | 0, _ => ⟨x - y, by rw [S_zero]; omega⟩
 | n + 1, h => by
  obtain ⟨t, ht⟩ := qt_eq_of_lmb (n := n) (fun i hi => h i (by omega))
  have h1 := h n (by omega)
  have e : x = y + t * S n := by omega
  rw [e] at h1
  unfold lmb at h1
  rw [qt_add_mul] at h1
  refine ⟨t / 18446744073709551616, ?_⟩
  rw [S_succ, Int.mul_comm (S n), ← Int.mul_assoc, show t / 18446744073709551616 * 18446744073709551616 = t from by omega]
  exact ht
theorem eq_of_lmb {x y : Int} {n : Nat} (hx : Fit n x) (hy : Fit n y) (h : ∀ i, i < n → lmb x i = lmb y i) : x = y := by
 obtain ⟨t, ht⟩ := qt_eq_of_lmb h
 have hS := S_pos n
 unfold Fit at hx hy
 rcases (by omega : t = 0 ∨ 1 ≤ t ∨ t ≤ -1) with h0 | h0 | h0
 ·rw [h0] at ht; omega
 ·have : 1 * S n ≤ t * S n := Int.mul_le_mul_of_nonneg_right h0 (Int.le_of_lt hS)
  omega
 ·have : t * S n ≤ -1 * S n := Int.mul_le_mul_of_nonneg_right h0 (Int.le_of_lt hS)
  omega
theorem zero_of_lmb {x : Int} {n : Nat} (hx : Fit n x) (h : ∀ i, i < n → lmb x i = 0) : x = 0 :=
 eq_of_lmb hx (by have := S_pos n; unfold Fit; omega) (fun i hi => by rw [h i hi, lmb_zero])
theorem fit_mono {n m : Nat} {x : Int} (h : Fit n x) (hm : n ≤ m) : Fit m x := by
 have := S_le hm; unfold Fit at *; omega
theorem ZjT {x : Int} (h : IsI x) {n : Nat} (hn : 1 ≤ n) : Fit n x := by
 refine fit_mono (n := 1) ?_ hn
 unfold IsI at h; unfold Fit; rw [show S 1 = 18446744073709551616 from rfl]; omega
end Wd
def sg (x : Int) : Int := x.sign
namespace Op
open Go.ChangeShapes Go.WideShapes Go.ChangeAt Go.RowKit Wd
variable {H : Type} {enc : TypeId × Value → H} {P : Program} {w : World} {base : Nat} {spare : Nat → Bool} {held : Bool}
theorem ZcQ {w : World} {b o : Nat} {sp : Option Nat} {v : Value} (h : w.cell? ⟨b, o, sp⟩ = some v) : sp = none ∧ b < w.heap.size := by
 unfold World.cell? at h
 cases hh : w.heap[b]? with
 | none => simp [hh] at h
 | some o =>
  have hlt : b < w.heap.size := by
   rcases Nat.lt_or_ge b w.heap.size with h1 | h1
   ·exact h1
   ·rw [Array.getElem?_eq_none h1] at hh; cases hh
  refine ⟨?_, hlt⟩
  cases sp with
  | none => rfl
  | some s => cases o <;> simp [hh] at h
end Op
namespace Op
open Go.ChangeShapes Go.WideShapes Go.ChangeAt Go.RowKit
variable {H : Type} {enc : TypeId × Value → H} {P : Program} {w : World} {base : Nat} {spare : Nat → Bool} {held : Bool}
end Op
namespace Op
open Go.ChangeShapes Go.WideShapes Go.ChangeAt Go.RowKit Wd
variable {H : Type} {enc : TypeId × Value → H} {P : Program} {w : World} {base : Nat} {spare : Nat → Bool} {held : Bool}
end Op
namespace Wd
theorem abs_mul_le {x y a b : Int} (hx : -a ≤ x ∧ x ≤ a) (hy : -b ≤ y ∧ y ≤ b) : -(a * b) ≤ x * y ∧ x * y ≤ a * b := by
 have hx' : x.natAbs ≤ a.natAbs := by omega
 have hy' : y.natAbs ≤ b.natAbs := by omega
 have h := Nat.mul_le_mul hx' hy'
 rw [← Int.natAbs_mul, ← Int.natAbs_mul] at h
 have ha : 0 ≤ a := by omega
 have hb : 0 ≤ b := by omega
 have hab := Int.mul_nonneg ha hb
 generalize x * y = p at *
 generalize a * b = q at *
 omega
def det (ax ay bx b_ cx cy : Int) : Int := (bx - ax) * (cy - ay) - (b_ - ay) * (cx - ax)
def IsD (x : Int) : Prop := -18446744073709551615 ≤ x ∧ x ≤ 18446744073709551615
theorem JZ {a b : Int} (ha : IsI a) (hb : IsI b) : IsD (a - b) := by unfold IsI at *; unfold IsD; omega
theorem Zb5 {x y : Int} (hx : IsD x) (hy : IsD y) : -340282366920938463426481119284349108225 ≤ x * y ∧ x * y ≤ 340282366920938463426481119284349108225 := abs_mul_le hx hy
theorem Zjq {ax ay bx b_ cx cy : Int} (h1 : IsI ax) (h2 : IsI ay) (h3 : IsI bx) (h4 : IsI b_) (h5 : IsI cx) (h6 : IsI cy) :
  -680564733841876926852962238568698216450 ≤ det ax ay bx b_ cx cy ∧ det ax ay bx b_ cx cy ≤ 680564733841876926852962238568698216450 := by
 have e1 := Zb5 (JZ h3 h1) (JZ h6 h2)
 have e2 := Zb5 (JZ h4 h2) (JZ h5 h1)
 unfold det
 omega
theorem ZdA {x : Int} (h : -680564733841876926852962238568698216450 ≤ x ∧ x ≤ 680564733841876926852962238568698216450) : Fit 3 x := by
 unfold Fit
 rw [show S 3 = 6277101735386680763835789423207666416102355444464034512896 from rfl]; omega
theorem det_fit {ax ay bx b_ cx cy : Int} (h1 : IsI ax) (h2 : IsI ay) (h3 : IsI bx) (h4 : IsI b_) (h5 : IsI cx) (h6 : IsI cy) : Fit 3 (det ax ay bx b_ cx cy) := ZdA (Zjq h1 h2 h3 h4 h5 h6)
theorem ZiB {x y : Int} (hx : IsD x) (hy : IsD y) : 0 ≤ x * x + y * y ∧ x * x + y * y ≤ 680564733841876926852962238568698216450 := by
 have e1 := Zb5 hx hx
 have e2 := Zb5 hy hy
 have p1 : 0 ≤ x * x := by rcases Int.le_total 0 x with h | h; exact Int.mul_nonneg h h; exact Int.mul_nonneg_of_nonpos_of_nonpos h h
 have p2 : 0 ≤ y * y := by rcases Int.le_total 0 y with h | h; exact Int.mul_nonneg h h; exact Int.mul_nonneg_of_nonpos_of_nonpos h h
 omega
end Wd
structure P3 (ax ay bx b_ cx cy : Int) : Prop where
 a : Wd.IsI ax
 b : Wd.IsI ay
 c : Wd.IsI bx
 d : Wd.IsI b_
 e : Wd.IsI cx
 f : Wd.IsI cy
theorem P3.fit {ax ay bx b_ cx cy : Int} (h : P3 ax ay bx b_ cx cy) : Wd.Fit 3 (Wd.det ax ay bx b_ cx cy) := Wd.det_fit h.a h.b h.c h.d h.e h.f
end Go.Proofs.YtjdiilkljgljkaaGreatDoor
namespace Go.Proofs.YtjdiilkljgljkaaGreatDoor
set_option linter.unusedVariables false
set_option linter.unusedSimpArgs false
open Go.RowKit Wd
structure Pts (w : World) (A : Option Addr) (n c : Nat) (f g : Nat → Int) : Prop where
 cap : n ≤ c
 max : c ≤ maxLen
 isi : ∀ i, i < n → IsI (f i) ∧ IsI (g i)
 at_ : 0 < n → ∃ b off, A = some ⟨b, off, none⟩ ∧ b < w.heap.size ∧ ∀ i, i < n → w.cell? ⟨b, off + i * 2, none⟩ = some (.int .i64 (f i)) ∧ w.cell? ⟨b, off + i * 2 + 1, none⟩ = some (.int .i64 (g i))
theorem Pts.below {w w' : World} {B : Nat} {A : Option Addr} {n c : Nat} {f g : Nat → Int} (h : Pts w A n c f g) (hb : Below B w w') (hB : w.heap.size ≤ B) : Pts w' A n c f g :=
 ⟨h.cap, h.max, h.isi, fun hn => by
  obtain ⟨b, off, e, hlt, hc⟩ := h.at_ hn
  exact ⟨b, off, e, Nat.lt_of_lt_of_le hlt hb.size, fun i hi => ⟨(hb.cell (p := ⟨b, off + i * 2, none⟩) (by show b < B; omega)).trans (hc i hi).1, (hb.cell (p := ⟨b, off + i * 2 + 1, none⟩) (by show b < B; omega)).trans (hc i hi).2⟩⟩⟩
theorem Pts.alloc {w : World} {A : Option Addr} {n c : Nat} {f g : Nat → Int} (h : Pts w A n c f g) (o : Obj) : Pts (w.alloc o) A n c f g :=
 h.below ((Below.refl w.heap.size w).alloc ν o) ν
theorem Pts.drew {w : World} {A : Option Addr} {n c : Nat} {f g : Nat → Int} (h : Pts w A n c f g) : Pts w.drew A n c f g := h.below (Below.refl w.heap.size w).drew ν
namespace Op
open Go.ChangeShapes Go.WideShapes Go.ChangeAt
variable {H : Type} {enc : TypeId × Value → H} {P : Program} {w : World} {base : Nat} {spare : Nat → Bool} {held : Bool}
theorem ZgW {t e k : TypeId} {f0 f1 : Field} {A : Option Addr} {n c : Nat} {d : DataW H} {p : List MemPlace} (ht : P.underlying t = some (.slice e)) (he : P.underlying e = some (.struct #[f0, f1])) (h0 : f0.type = k) (h1 : f1.type = k) (o0 : f0.offset = 0) (o1 : f1.offset = 1) (hk : P.underlying k = some (.int .i64)) (ck : P.cellsOf k = 1) (ce : P.cellsOf e = 2)
  (h : DataW.Trod enc P w base spare held t (.slice A n c) d p) : ∃ f g : Nat → Int, Pts w A n c f g := by
 obtain ⟨fuel, hf⟩ := h
 rcases Go.Deep.open_slice_pairs ht he ce o0 o1 (by rw [h0, ck]) (by rw [h1, ck]) hf with ⟨hcs, _⟩ | ⟨a, len, cap, m, n', V0, V1, D0, D1, Q0, Q1, hcs, _, hl, hm, hmm, _, hx⟩
 ·have e0 : Value.slice A n c = .slice none 0 0 := by simpa [Value.cells] using hcs
  injection e0 with e1 e2 e3
  subst e1 e2 e3
  exact ⟨fun _ => 0, fun _ => 0, Nat.le_refl _, Nat.zero_le _, fun i hi => absurd hi (Nat.not_lt_zero _), fun h => absurd h (Nat.lt_irrefl _)⟩
 ·have e0 : Value.slice A n c = .slice (some a) len cap := by simpa [Value.cells] using hcs
  injection e0 with e1 e2 e3
  subst e1 e2 e3
  have hmn : n ≤ m := by rw [hmm]; split <;> omega
  have hV : ∀ i, i < n → ∃ y z : Int, V0 i = .int .i64 y ∧ V1 i = .int .i64 z ∧ IsI y ∧ IsI z := fun i hi => by
   obtain ⟨_, _, q0, q1⟩ := hx i (by omega)
   rw [h0] at q0; rw [h1] at q1
   obtain ⟨y, e2, _, wy⟩ := DataW.trod_int hk q0
   obtain ⟨z, e3, _, wz⟩ := DataW.trod_int hk q1
   simp at e2 e3
   exact ⟨y, z, e2, e3, ZaS wy, ZaS wz⟩
  refine ⟨fun i => match V0 i with | .int _ y => y | _ => 0, fun i => match V1 i with | .int _ y => y | _ => 0, hl, hm, fun i hi => ?_, fun hn => ?_⟩
  ·obtain ⟨y, z, e2, e3, wy, wz⟩ := hV i hi
   simp only [e2, e3]; exact ⟨wy, wz⟩
  ·have hc0 := (hx 0 (by omega)).1
   obtain ⟨b, off, sp⟩ := a
   have h0' : w.cell? ⟨b, off, sp⟩ = some (V0 0) := by simpa [Addr.add] using hc0
   obtain ⟨rfl, hlt⟩ := ZcQ h0'
   refine ⟨b, off, rfl, hlt, fun i hi => ?_⟩
   obtain ⟨y, z, e2, e3, wy, wz⟩ := hV i hi
   have g0 := (hx i (by omega)).1
   have g1 := (hx i (by omega)).2.1
   have ea : ∀ j, (⟨b, off, none⟩ : Addr).add j = ⟨b, off + j, none⟩ := fun j => by unfold Addr.add; split <;> simp_all
   rw [ea] at g0 g1
   simp only [e2, e3] at *
   exact ⟨g0, g1⟩
end Op
theorem ZdY {P : Program} (w : World) (dT sT ty elem : TypeId) (g o dLen dCap : Nat) (a : Addr) (sLen sCap m : Nat) (cur : Array Value) (t : TypeId) (cs : List Value)
  (hu : P.underlying dT = some (.slice elem)) (hs : (P.info? elem).map (·.size) = some 2)
  (hg : w.heap[g]? = some (.cells cur t (0, 0))) (hm : m = Nat.min sLen dLen) (hn : cs.length = m * 2)
  (hsrc : ∀ j v, cs[j]? = some v → w.cell? (a.add j) = some v) (hfit : o + cs.length ≤ cur.size) (h1 : ∀ v ∈ cs, v.oneCell' = true) :
  (Builtin.copy_ #[dT, sT] ty #[.slice (some ⟨g, o, none⟩) dLen dCap, .slice (some a) sLen sCap]).run P w =
   .ok (goInt m) (w.setRow g (cur.toList.take o ++ cs ++ cur.toList.drop (o + cs.length)).toArray) := by
 have hl := run_loadCells_list (P := P) w a cs hsrc
 have hst := run_storeCells_at P g o t cs 0 cur w hg (by simpa using hfit) h1
 cases hq : P.info? elem with
 | none => simp [hq] at hs
 | some i =>
  have hi : i.size = 2 := by simpa [hq] using hs
  simp [Builtin.copy_, run_underlying hu, Builtin.lenOf, Builtin.firstCells, sizeOf, typeInfo, hq, hi, ← hm, ← hn, hl, hst]
theorem ZhM {P : Program} (w : World) (dT sT ty elem : TypeId) (hu : P.underlying dT = some (.slice elem)) (hsz : (P.info? elem).map (·.size) = some 2)
  (g dLen dCap : Nat) (ad : Addr) (sLen sCap m : Nat) (cur : Array Value) (t : TypeId) (hg : Bx w g cur t) (cs : List Value) (hm : m = Nat.min sLen dLen) (hn : cs.length = m * 2)
  (hsrc : ∀ j v, cs[j]? = some v → w.cell? (ad.add j) = some v) (hfit : cs.length = cur.size) (h1 : ∀ v ∈ cs, v.oneCell' = true) (B : Nat) (w0 : World) (hb : Below B w0 w) (hBg : B ≤ g) :
  ∃ w', (Builtin.copy_ #[dT, sT] ty #[.slice (some ⟨g, 0, none⟩) dLen dCap, .slice (some ad) sLen sCap]).run P w = .ok (goInt m) w' ∧ Bx w' g cs.toArray t ∧ (∀ c, c ≠ g → w'.heap[c]? = w.heap[c]?) ∧ Below B w0 w' := by
 have hrun := ZdY (P := P) w dT sT ty elem g 0 dLen dCap ad sLen sCap m cur t cs hu hsz hg hm hn hsrc (by omega) h1
 have e : (cur.toList.take 0 ++ cs ++ cur.toList.drop (0 + cs.length)).toArray = cs.toArray := by
  rw [List.drop_eq_nil_of_le (by simp; omega)]; simp
 rw [e] at hrun
 exact ⟨_, hrun, setRow_heap w g _ _ t _ hg, fun c hc => setRow_other w g c _ hc, below_setRow hb hBg _⟩
structure C6 (w : World) (b off : Nat) (ax ay bx b_ cx cy : Int) : Prop where
 lt : b < w.heap.size
 c0 : w.cell? ⟨b, off, none⟩ = some (.int .i64 ax)
 c1 : w.cell? ⟨b, off + 1, none⟩ = some (.int .i64 ay)
 c2 : w.cell? ⟨b, off + 2, none⟩ = some (.int .i64 bx)
 c3 : w.cell? ⟨b, off + 3, none⟩ = some (.int .i64 b_)
 c4 : w.cell? ⟨b, off + 4, none⟩ = some (.int .i64 cx)
 c5 : w.cell? ⟨b, off + 5, none⟩ = some (.int .i64 cy)
theorem C6.below {w w' : World} {B b off : Nat} {ax ay bx b_ cx cy : Int} (h : C6 w b off ax ay bx b_ cx cy) (hb : Below B w w') (hB : w.heap.size ≤ B) : C6 w' b off ax ay bx b_ cx cy := by
 have hlt := h.lt
 have k : ∀ o, w'.cell? ⟨b, o, none⟩ = w.cell? ⟨b, o, none⟩ := fun o => hb.cell (p := ⟨b, o, none⟩) (by show b < B; omega)
 exact ⟨Nat.lt_of_lt_of_le h.lt hb.size, (k _).trans h.c0, (k _).trans h.c1, (k _).trans h.c2, (k _).trans h.c3, (k _).trans h.c4, (k _).trans h.c5⟩
theorem C6.alloc {w : World} {b off : Nat} {ax ay bx b_ cx cy : Int} (h : C6 w b off ax ay bx b_ cx cy) (o : Obj) : C6 (w.alloc o) b off ax ay bx b_ cx cy :=
 h.below ((Below.refl w.heap.size w).alloc ν o) ν
theorem C6.src {w : World} {b off : Nat} {ax ay bx b_ cx cy : Int} (h : C6 w b off ax ay bx b_ cx cy) :
  ∀ j v, [Value.int .i64 ax, .int .i64 ay, .int .i64 bx, .int .i64 b_, .int .i64 cx, .int .i64 cy][j]? = some v → w.cell? ((⟨b, off, none⟩ : Addr).add j) = some v := by
 intro j v hj
 match j, hj with
 | 0, hj => simp at hj; subst hj; simpa [Addr.add] using h.c0
 | 1, hj => simp at hj; subst hj; simpa [Addr.add] using h.c1
 | 2, hj => simp at hj; subst hj; simpa [Addr.add] using h.c2
 | 3, hj => simp at hj; subst hj; simpa [Addr.add] using h.c3
 | 4, hj => simp at hj; subst hj; simpa [Addr.add] using h.c4
 | 5, hj => simp at hj; subst hj; simpa [Addr.add] using h.c5
 | j + 6, hj => simp at hj
structure T3 (w : World) (A : Option Addr) (c : Nat) (ax ay bx b_ cx cy : Int) : Prop where
 cap : 3 ≤ c
 max : c ≤ maxLen
 at_ : ∃ b off, A = some ⟨b, off, none⟩ ∧ C6 w b off ax ay bx b_ cx cy
theorem T3.below {w w' : World} {B : Nat} {A : Option Addr} {c : Nat} {ax ay bx b_ cx cy : Int} (h : T3 w A c ax ay bx b_ cx cy) (hb : Below B w w') (hB : w.heap.size ≤ B) : T3 w' A c ax ay bx b_ cx cy :=
 ⟨h.cap, h.max, by obtain ⟨b, off, e, hc⟩ := h.at_; exact ⟨b, off, e, hc.below hb hB⟩⟩
theorem T3.alloc {w : World} {A : Option Addr} {c : Nat} {ax ay bx b_ cx cy : Int} (h : T3 w A c ax ay bx b_ cx cy) (o : Obj) : T3 (w.alloc o) A c ax ay bx b_ cx cy :=
 h.below ((Below.refl w.heap.size w).alloc ν o) ν
theorem Pts.t3 {w : World} {A : Option Addr} {c : Nat} {f g : Nat → Int} (h : Pts w A 3 c f g) : T3 w A c (f 0) (g 0) (f 1) (g 1) (f 2) (g 2) :=
 ⟨h.cap, h.max, by
  obtain ⟨b, off, e, hlt, hc⟩ := h.at_ (by omega)
  exact ⟨b, off, e, hlt, (hc 0 (by omega)).1, (hc 0 (by omega)).2, (hc 1 (by omega)).1, (hc 1 (by omega)).2, (hc 2 (by omega)).1, (hc 2 (by omega)).2⟩⟩
theorem Pts.p3 {w : World} {A : Option Addr} {c : Nat} {f g : Nat → Int} (h : Pts w A 3 c f g) : P3 (f 0) (g 0) (f 1) (g 1) (f 2) (g 2) :=
 ⟨(h.isi 0 (by omega)).1, (h.isi 0 (by omega)).2, (h.isi 1 (by omega)).1, (h.isi 1 (by omega)).2, (h.isi 2 (by omega)).1, (h.isi 2 (by omega)).2⟩
theorem Bx.c6 {w : World} {b : Nat} {ax ay bx b_ cx cy : Int} {t : TypeId} (h : Bx w b #[.int .i64 ax, .int .i64 ay, .int .i64 bx, .int .i64 b_, .int .i64 cx, .int .i64 cy] t) : C6 w b 0 ax ay bx b_ cx cy :=
 ⟨h.lt, h.cell 0 rfl, h.cell 1 rfl, h.cell 2 rfl, h.cell 3 rfl, h.cell 4 rfl, h.cell 5 rfl⟩
theorem Bx.t3 {w : World} {b : Nat} {ax ay bx b_ cx cy : Int} {t : TypeId} (h : Bx w b #[.int .i64 ax, .int .i64 ay, .int .i64 bx, .int .i64 b_, .int .i64 cx, .int .i64 cy] t) : T3 w (some ⟨b, 0, none⟩) 3 ax ay bx b_ cx cy :=
 ⟨Nat.le_refl _, by decide, b, 0, rfl, h.c6⟩
theorem ZhN (x : Int) (k : Nat) : x / 256 ^ k / 256 = x / 256 ^ (k + 1) := by rw [Int.pow_succ, Int.ediv_ediv_of_nonneg (Int.le_of_lt (Int.pow_pos (by decide)))]
theorem Zjr (x : Int) : IntKind.u8.wrap x = x % 256 := IntKind.wrap_u8 x
theorem ZgX (x : Int) : IntKind.u8.wrap (x % 256) = x % 256 := by rw [IntKind.wrap_u8]; omega
theorem ZdB {x : Int} (h : IsW x) (k : Nat) : IsW (x / 256 ^ k) := by
 have hp : (0 : Int) < 256 ^ k := Int.pow_pos (by decide)
 unfold IsW at *
 have h1 := Int.ediv_nonneg h.1 (Int.le_of_lt hp)
 have h2 := Int.ediv_le_self (256 ^ k) h.1
 omega
set_option maxHeartbeats 2000000 in
set_option maxRecDepth 100000 in
theorem ZaZ (base : Nat) (v : Value) (l : List Int) (x : Int) (hx : IsW x) (hl : l.length ≤ 1000000) (w : World) (hb : base ≤ w.heap.size) (ho : OwB w base v l) :
  Calls Tryz.prog 45 #[v, .int .u64 x] w fun e w' => (∃ v', e = .returned v' ∧ OwB w' base v' (l ++ le8 x)) ∧ Fr base none w w' := by
 obtain ⟨i0, hi0, hz0, hz1, hz2⟩ := info_parts Zbh
 have HO := η ho; have HX := η hx; have HLL := η hl; clear ho hx hl
 go_enter Tryz.func45, Tryz.ntmps45
 go_wp2_with fail
 go_loopw [0, 1, 5] (fun vr xr ir wr => ∃ k : Nat, k ≤ 8 ∧ ir = .int .i64 (k : Int) ∧ xr = .int .u64 (x / 256 ^ k) ∧ OwB wr base vr (l ++ bytL x k) ∧ Fr base none w wr) (fun _ _ i _ => 8 - (intOf i).toNat)
 case atStart => exact ⟨0, Nat.zero_le _, rfl, by simp, by simpa [bytL] using HO.out, Fr.refl _ _ _⟩
 case round =>
  obtain ⟨k, hk, rfl, rfl, hown, hbr⟩ := hrel
  have HOW := η hown; have HBR := η hbr; clear hown hbr
  have hlen : (l ++ bytL x k).length = l.length + k := by simp [ZcP]
  have HL := η hlen; clear hlen
  by_cases hlt : k < 8
  ·have HW := ZdB HX.out k
   generalize hy : x / 256 ^ k = y at *
   have HY := η hy; clear hy
   have e1 := ZgX y
   have e2 : y.tmod 256 = y % 256 := Int.tmod_eq_emod_of_nonneg HW.1
   have e3 : y.tdiv 256 = y / 256 := Int.tdiv_eq_ediv_of_nonneg HW.1
   have hq : 0 ≤ y := HW.1
   have HW := η HW
   have hown : wr.ownsRow base 5 1 u0 (l.length + k) (Jz (l ++ bytL x k)) := by have := HOW.out; unfold OwB at this; rw [HL.out] at this; exact this
   go_wp2_with (at_builtin; refine wpList_append_own _ rfl _ _ 24 rfl base 5 i0 (.int .u8 0) 1 1 Tryz.underlying24 hi0 hz0 hz1 hz2 rfl (by decide) _ _ _ rfl (hown.alloc _) ⟨wr.heap.size, 0, none⟩ 1 1 [.int .u8 (y % 256)] rfl rfl ?c1 ?c2 ?c3 ?c4 ?c5 ?_)
   case c1 => exact Jt _ _ _
   case c2 => exact JC _ _
   case c3 => have := HLL.out; unfold maxLen; omega
   case c4 => have := HLL.out; omega
   case c5 => have := HBR.out.size; simp; omega
   intro v' w2 hown2 hgrow _
   have hb3 : Fr base none w w2 := (HBR.out.alloc (by have := HBR.out.size; omega) _).grown hgrow (hown.alloc _) (by have := HBR.out.size; simp; omega)
   have hown3 : OwB w2 base v' (l ++ bytL x (k + 1)) := by
    rw [ZdX, ← List.append_assoc]
    refine OwB.snoc (n := l.length + k + 1) ?_ (by rw [HL.out])
    unfold byt; rw [HY.out]; exact hown2
   have hyy := ZhN x k
   rw [HY.out] at hyy
   have H3 := η hown3; have B3 := η hb3; have HYY := η hyy
   clear hown2 hgrow hown hb3 hown3 hyy
   go_wp2
   go_roundw
   case rel => exact ⟨k + 1, by omega, by go_num, by rw [HYY.out, wrapU, ZjR (ZdB HX.out _)], H3.out, B3.out⟩
   case measure => simp [intOf]; omega
  ·generalize x / 256 ^ k = y at *
   obtain rfl : k = 8 := by omega
   go_wp2_with fail
   go_ret
   exact ⟨⟨_, rfl, HOW.out⟩, HBR.out⟩
end Go.Proofs.YtjdiilkljgljkaaGreatDoor
namespace Go.Proofs.YtjdiilkljgljkaaGreatDoor
set_option linter.unusedVariables false
set_option linter.unusedSimpArgs false
def unl (l : Array Bool) : Nat := l.toList.countP (fun b => !b)
theorem Zbz {l : Array Bool} {i : Nat} (h : l.getD i true = false) : ∃ h' : i < l.size, l[i] = false := by
 by_cases hi : i < l.size
 ·refine ⟨hi, ?_⟩; simpa [Array.getD, hi] using h
 ·simp [Array.getD, hi] at h
theorem Zg5 {l : Array Bool} {i : Nat} (h : l.getD i true = false) : unl (l.setIfInBounds i true) + 1 = unl l := by
 obtain ⟨hi, he⟩ := Zbz h
 have hl : i < l.toList.length := by simpa using hi
 have he' : l.toList[i] = false := by simpa using he
 unfold unl
 rw [Array.toList_setIfInBounds, List.countP_set hl]
 have hpos : 0 < l.toList.countP (fun b => !b) := List.countP_pos_iff.2 ⟨false, by rw [← he']; exact List.getElem_mem hl, rfl⟩
 rw [he']
 generalize l.toList.countP (fun b => !b) = k at hpos ⊢
 simp
 omega
theorem Zd9 {l : Array Bool} (h : unl l = 0) : ∀ i, i < l.size → l.getD i false = true := by
 intro i hi
 unfold unl at h
 rw [List.countP_eq_zero] at h
 have := h (l.toList[i]'(by simpa using hi)) (List.getElem_mem _)
 simp at this
 simp [Array.getD, hi, this]
section
variable {P : Program} {ops : Array Oper} {Q : Exit → Act → World → Prop} {md : Region.Mode}
def ordB (md : Region.Mode) (ops : Array Oper) : Bool := (List.range ops.size).all fun i => ((ops[i]?).map fun o => o.after.all fun e => !Region.binds md e || decide (e.on < i)).getD true
theorem ZgY (h : ordB md ops = true) {i : Nat} {o : Oper} (ho : ops[i]? = some o) : ∀ e ∈ o.after, Region.binds md e = true → e.on < i := by
 unfold ordB at h
 rw [List.all_eq_true] at h
 have hi : i < ops.size := (Array.getElem?_eq_some_iff.1 ho).1
 have := h i (List.mem_range.2 hi)
 rw [ho] at this
 simp only [Option.map_some, Option.getD_some, Array.all_eq_true_iff_forall_mem, Bool.or_eq_true, Bool.not_eq_true', decide_eq_true_eq] at this
 intro e he hb
 rcases this e he with h | h
 ·rw [hb] at h; cases h
 ·exact h
theorem Zc9 {listed : Array Bool} (hord : ordB md ops = true) (hs : listed.size = ops.size) (hr : Region.ready md ops listed = []) : ∀ i, i < ops.size → listed.getD i false = true := by
 intro i
 induction i using Nat.strongRecOn with
 | _ i ih =>
  intro hi
  cases hl : listed.getD i true with
  | true => simpa [Array.getD, hs, hi] using hl
  | false =>
   exfalso
   obtain ⟨o, ho⟩ : ∃ o, ops[i]? = some o := ⟨ops[i], by simp [hi]⟩
   have : i ∈ Region.ready md ops listed := mem_ready.2 ⟨hl, o, ho, fun e he hb => by
    have hlt := ZgY hord ho e he hb
    exact ih _ hlt (by omega)⟩
   rw [hr] at this
   cases this
theorem Zda {S : World → Prop} (I : Array Bool → Act → World → Prop) (hord : ordB md ops = true) (hS : ∀ listed a w, I listed a w → S w)
  (hstep : ∀ (listed : Array Bool) (a : Act) (w : World) (i : Nat) (o : Oper), listed.size = ops.size → ops[i]? = some o → listed.getD i true = false → (∀ e ∈ o.after, Region.binds md e = true → listed.getD e.on false = true) →
   I listed a w → wpOp P ops Q i (I (listed.setIfInBounds i true)) a w)
  (hend : ∀ (listed : Array Bool) (a : Act) (w : World), (∀ i, i < ops.size → listed.getD i false = true) → I listed a w → Q .normal a w) :
  ∀ (fuel : Nat) (listed : Array Bool) (a : Act) (w : World), listed.size = ops.size → unl listed ≤ fuel → I listed a w → wpAnyH P md ops Q S fuel listed a w := by
 intro fuel
 induction fuel with
 | zero =>
  intro listed a w hs hu hI
  have hall := Zd9 (l := listed) (by omega)
  refine ⟨?_, hend _ _ _ (fun i hi => hall i (by omega)) hI⟩
  rw [List.eq_nil_iff_forall_not_mem]
  intro i hi
  obtain ⟨h0, o, ho, _⟩ := mem_ready.1 hi
  obtain ⟨hi', he⟩ := Zbz h0
  have := hall i hi'
  simp [Array.getD, hi', he] at this
 | succ fuel ih =>
  intro listed a w hs hu hI
  refine ⟨fun hr => hend _ _ _ (Zc9 hord hs hr) hI, fun i hi => ?_⟩
  obtain ⟨h0, o, ho, hp⟩ := mem_ready.1 hi
  refine wpOp_mono (fun a' w' h' => ⟨hS _ _ _ h', ih _ a' w' (by simpa using hs) (by have := Zg5 h0; omega) h'⟩) (hstep listed a w i o hs ho h0 hp hI)
end
end Go.Proofs.YtjdiilkljgljkaaGreatDoor
namespace Go.Proofs.YtjdiilkljgljkaaGreatDoor
set_option linter.unusedVariables false
set_option linter.unusedSimpArgs false
open Go.RowKit
structure BoxD where
 al : Nat
 st : Nat
 slot : Nat
 ty : TypeId
 z : Array Value
 v : List Value
theorem Za0 {a : Act} {t s : Nat} {v : Value} (h : s < a.tmps.size) : (a.put (some s) v).tmps[t]? = if s = t then some v else a.tmps[t]? := by
 show (a.tmps.setIfInBounds s v)[t]? = _
 rw [Array.getElem?_setIfInBounds]
 by_cases e : s = t
 ·subst e; simp [h]
 ·simp [e]
def Zdb (ops : Array Oper) (bs : List BoxD) : Bool :=
 ordB .any ops && decide ((bs.map (·.slot)).Nodup) && decide ((bs.map (·.al) ++ bs.map (·.st)).Nodup) && bs.all (fun b => decide (b.al < ops.size) && decide (b.st < ops.size) && ((ops[b.st]?).map fun o => o.after.any fun e => Region.binds .any e && (e.on == b.al)).getD false)
structure BoxSpec (ops : Array Oper) (bs : List BoxD) : Prop where
 ord : ordB .any ops = true
 slots : (bs.map (·.slot)).Nodup
 nums : (bs.map (·.al) ++ bs.map (·.st)).Nodup
 lt : ∀ b ∈ bs, b.al < ops.size ∧ b.st < ops.size
 pre : ∀ b ∈ bs, ∀ o, ops[b.st]? = some o → ∃ e ∈ o.after, Region.binds .any e = true ∧ e.on = b.al
theorem ZcE {ops : Array Oper} {bs : List BoxD} (h : Zdb ops bs = true) : BoxSpec ops bs := by
 unfold Zdb at h
 simp only [Bool.and_eq_true, decide_eq_true_eq, List.all_eq_true] at h
 obtain ⟨⟨⟨h1, h2⟩, h3⟩, h4⟩ := h
 refine ⟨h1, h2, h3, fun b hb => ⟨(h4 b hb).1.1, (h4 b hb).1.2⟩, fun b hb o ho => ?_⟩
 have := (h4 b hb).2
 rw [ho] at this
 simp only [Option.map_some, Option.getD_some, Array.any_eq_true'] at this
 obtain ⟨e, he, h5⟩ := this
 simp only [Bool.and_eq_true, beq_iff_eq] at h5
 exact ⟨e, he, h5.1, h5.2⟩
theorem ZbA {bs : List BoxD} (h : (bs.map (·.slot)).Nodup) {b c : BoxD} (hb : b ∈ bs) (hc : c ∈ bs) (hne : b ≠ c) : b.slot ≠ c.slot := by
 intro e
 induction bs with
 | nil => cases hb
 | cons x xs ih =>
  simp only [List.map_cons, List.nodup_cons, List.mem_map, not_exists, not_and] at h
  rcases List.mem_cons.1 hb with rfl | hb'
  ·rcases List.mem_cons.1 hc with rfl | hc'
   ·exact hne rfl
   ·exact h.1 c hc' e.symm
  ·rcases List.mem_cons.1 hc with rfl | hc'
   ·exact h.1 b hb' e
   ·exact ih h.2 hb' hc'
theorem ZbL {bs : List BoxD} (h : (bs.map (·.al) ++ bs.map (·.st)).Nodup) {b c : BoxD} (hb : b ∈ bs) (hc : c ∈ bs) : b.al ≠ c.st :=
 fun e => (List.nodup_append.1 h).2.2 _ (List.mem_map.2 ⟨b, hb, rfl⟩) _ (List.mem_map.2 ⟨c, hc, rfl⟩) e
theorem Zb8 {bs : List BoxD} {f : BoxD → Nat} (h : (bs.map f).Nodup) {b c : BoxD} (hb : b ∈ bs) (hc : c ∈ bs) (e : f b = f c) : b = c := by
 induction bs with
 | nil => cases hb
 | cons x xs ih =>
  simp only [List.map_cons, List.nodup_cons, List.mem_map, not_exists, not_and] at h
  rcases List.mem_cons.1 hb with rfl | hb'
  ·rcases List.mem_cons.1 hc with rfl | hc'
   ·rfl
   ·exact absurd e.symm (h.1 c hc')
  ·rcases List.mem_cons.1 hc with rfl | hc'
   ·exact absurd e (h.1 b hb')
   ·exact ih h.2 hb' hc'
def JI (b : Nat) : Value := .pointer (some ⟨b, 0, none⟩)
def ZjU (bs : List BoxD) (G : BoxD → Array Value → World → Prop) (n0 : Nat) (listed : Array Bool) (a : Act) (w : World) : Prop :=
 ∃ B : Nat → Nat,
  (∀ b ∈ bs, listed.getD b.al false = true → a.tmps[b.slot]? = some (JI (B b.slot)) ∧ n0 ≤ B b.slot ∧ ∃ cs, Bx w (B b.slot) cs b.ty ∧ (listed.getD b.st false = false → cs = b.z) ∧ (listed.getD b.st false = true → G b cs w)) ∧
  (∀ b ∈ bs, ∀ c ∈ bs, listed.getD b.al false = true → listed.getD c.al false = true → b ≠ c → B b.slot ≠ B c.slot)
theorem Zam {l : Array Bool} {i : Nat} (h : l.getD i true = false) : (l.setIfInBounds i true).getD i false = true := by
 obtain ⟨hi, _⟩ := Zbz h
 simp [Array.getD, hi]
theorem JY {l : Array Bool} {i : Nat} (h : l.getD i true = false) : l.getD i false = false := by
 obtain ⟨hi, he⟩ := Zbz h
 simp [Array.getD, hi, he]
section
variable {P : Program} {ops : Array Oper} {Q : Exit → Act → World → Prop} {S : World → Prop}
theorem ZeQ {a0 : Act} {w0 : World} {listed0 : Array Bool} {fuel : Nat} (bs : List BoxD) (hB : Zdb ops bs = true)
  (J : Array Bool → Act → World → Prop) (G : BoxD → Array Value → World → Prop) (n0 : Nat) (hn0 : n0 ≤ w0.heap.size) (hls : listed0.size = ops.size) (hfu : unl listed0 ≤ fuel)
  (hl0 : ∀ b ∈ bs, listed0.getD b.al false = false ∧ listed0.getD b.st false = false)
  (hsl : ∀ b ∈ bs, b.slot < a0.tmps.size)
  (hG : ∀ b ∈ bs, ∀ cs w w', G b cs w → Below w.heap.size w w' → G b cs w')
  (h0 : J listed0 a0 w0) (hJS : ∀ listed a w, J listed a w → S w)
  (hal : ∀ b ∈ bs, ∀ a w K, K (a.put (some b.slot) (JI w.heap.size)) (w.alloc (.cells b.z b.ty)) → wpOp P ops Q b.al K a w)
  (hJal : ∀ b ∈ bs, ∀ listed a w, J listed a w → n0 ≤ w.heap.size → listed.getD b.al true = false → J (listed.setIfInBounds b.al true) (a.put (some b.slot) (JI w.heap.size)) (w.alloc (.cells b.z b.ty)))
  (hst : ∀ b ∈ bs, ∀ listed a w B K o, ops[b.st]? = some o → listed.getD b.st true = false → (∀ e ∈ o.after, Region.binds .any e = true → listed.getD e.on false = true) → J listed a w → a.tmps[b.slot]? = some (JI B) → n0 ≤ B → Bx w B b.z b.ty →
   (∀ w' cs, Bx w' B cs b.ty → (∀ c, c ≠ B → w'.heap[c]? = w.heap[c]?) → w'.heap.size = w.heap.size → (∀ c ∈ bs, ∀ cs', G c cs' w → G c cs' w') → G b cs w' → J (listed.setIfInBounds b.st true) a w' → K a w') → wpOp P ops Q b.st K a w)
  (hot : ∀ (listed : Array Bool) a w i o, ops[i]? = some o → (∀ b ∈ bs, b.al ≠ i ∧ b.st ≠ i) → listed.getD i true = false → (∀ e ∈ o.after, Region.binds .any e = true → listed.getD e.on false = true) → J listed a w →
   wpOp P ops Q i (fun a' w' => J (listed.setIfInBounds i true) a' w' ∧ Below w.heap.size w w' ∧ (∀ b ∈ bs, a'.tmps[b.slot]? = a.tmps[b.slot]?) ∧ a'.tmps.size = a.tmps.size) a w)
  (hend : ∀ (listed : Array Bool) a w (B : Nat → Nat), (∀ i, i < ops.size → listed.getD i false = true) → J listed a w → a.tmps.size = a0.tmps.size → (∀ b ∈ bs, a.tmps[b.slot]? = some (JI (B b.slot)) ∧ n0 ≤ B b.slot ∧ ∃ cs, Bx w (B b.slot) cs b.ty ∧ G b cs w) → (∀ b ∈ bs, ∀ c ∈ bs, b ≠ c → B b.slot ≠ B c.slot) → Q .normal a w) :
  wpAnyH P .any ops Q S fuel listed0 a0 w0 := by
 have sp := ZcE hB
 have hst1 : (bs.map (·.al)).Nodup := (List.nodup_append.1 sp.nums).1
 have hst2 : (bs.map (·.st)).Nodup := (List.nodup_append.1 sp.nums).2.1
 refine Zda (fun listed a w => J listed a w ∧ a.tmps.size = a0.tmps.size ∧ ZjU bs G n0 listed a w ∧ n0 ≤ w.heap.size ∧ ((∀ b ∈ bs, listed.getD b.st false = true → listed.getD b.al false = true))) sp.ord (fun _ _ _ h => hJS _ _ _ h.1)
  ?_ ?_ fuel listed0 a0 w0 hls hfu ⟨h0, rfl, ⟨fun _ => 0, fun b hb h => ?_, fun b hb c hc h => ?_⟩, hn0, fun b hb h => ?_⟩
 rotate_left 2
 ·rw [(hl0 b hb).1] at h; cases h
 ·rw [(hl0 b hb).1] at h; cases h
 ·rw [(hl0 b hb).2] at h; cases h
 ·rintro listed a w i o hs ho hi hp ⟨hJ, hsz, ⟨B, hb1, hb2⟩, hn, hsa⟩
  by_cases hA : ∃ b ∈ bs, b.al = i
  ·obtain ⟨b, hb, rfl⟩ := hA
   refine hal b hb a w _ ⟨hJal b hb listed a w hJ hn hi, ?_, ⟨fun s => if s = b.slot then w.heap.size else B s, ?_, ?_⟩, ?_, ?_⟩
   ·simp [Act.put, hsz]
   ·intro c hc hl
    have hb' : b.slot < a.tmps.size := by rw [hsz]; exact hsl b hb
    rw [Za0 hb']
    by_cases e : b = c
    ·subst e
     refine ⟨by simp, by simpa using hn, b.z, by simpa using Bx.new w b.z b.ty, fun _ => rfl, fun h => ?_⟩
     rw [getD_set_ne false (ZbL sp.nums hb hb)] at h
     have := hsa b hb h
     rw [JY hi] at this; cases this
    ·have hne := ZbA sp.slots hb hc e
     rw [getD_set_ne false (fun e' => e (Zb8 hst1 hb hc e'))] at hl
     obtain ⟨h1, h2, cs, h3, h4, h5⟩ := hb1 c hc hl
     rw [getD_set_ne false (ZbL sp.nums hb hc)]
     refine ⟨by simp only [if_neg hne, if_neg (Ne.symm hne)]; exact h1, by simp only [if_neg (Ne.symm hne)]; exact h2, cs, by simp only [if_neg (Ne.symm hne)]; exact h3.alloc _, h4, fun h => hG c hc cs _ _ (h5 h) ((Below.refl _ _).alloc ν _)⟩
   ·intro c hc d hd hlc hld hcd
    have key : ∀ c ∈ bs, c ≠ b → (listed.setIfInBounds b.al true).getD c.al false = true → B c.slot < w.heap.size := fun c hc hne hl => by
     rw [getD_set_ne false (fun e' => hne (Zb8 hst1 hc hb e'.symm))] at hl
     obtain ⟨_, _, cs, h3, _⟩ := hb1 c hc hl
     exact h3.lt
    by_cases ec : c = b
    ·subst ec
     have hne := ZbA sp.slots hc hd hcd
     simp only [if_true, if_neg (Ne.symm hne)]
     exact Nat.ne_of_gt (key d hd (Ne.symm hcd) hld)
    ·by_cases ed : d = b
     ·subst ed
      have hne := ZbA sp.slots hc hd hcd
      simp only [if_true, if_neg hne]
      exact Nat.ne_of_lt (key c hc hcd hlc)
     ·simp only [if_neg (ZbA sp.slots hc hb ec), if_neg (ZbA sp.slots hd hb ed)]
      rw [getD_set_ne false (fun e' => ec (Zb8 hst1 hc hb e'.symm))] at hlc
      rw [getD_set_ne false (fun e' => ed (Zb8 hst1 hd hb e'.symm))] at hld
      exact hb2 c hc d hd hlc hld hcd
   ·simp; omega
   ·intro c hc hl
    by_cases e : c = b
    ·subst e; exact Zam hi
    ·rw [getD_set_ne false (ZbL sp.nums hb hc)] at hl
     rw [getD_set_ne false (fun e' => e (Zb8 hst1 hc hb e'.symm))]
     exact hsa c hc hl
  ·by_cases hS : ∃ b ∈ bs, b.st = i
   ·obtain ⟨b, hb, rfl⟩ := hS
    obtain ⟨e, he, hbi, heq⟩ := sp.pre b hb o ho
    have hla : listed.getD b.al false = true := heq ▸ hp e he hbi
    obtain ⟨h1, h2, cs, h3, h4, _⟩ := hb1 b hb hla
    have hz : cs = b.z := h4 (JY hi)
    subst hz
    refine hst b hb listed a w (B b.slot) _ o ho hi hp hJ h1 h2 h3 ?_
    intro w' cs' k1 k2 k3 k4 k5 kJ
    refine ⟨kJ, hsz, ⟨B, ?_, ?_⟩, by omega, ?_⟩
    ·intro c hc hl
     rw [getD_set_ne false (Ne.symm (ZbL sp.nums hc hb))] at hl
     by_cases e : c = b
     ·subst e
      refine ⟨h1, h2, cs', k1, fun h => ?_, fun _ => k5⟩
      rw [Zam hi] at h; cases h
     ·obtain ⟨m1, m2, ds, m3, m4, m5⟩ := hb1 c hc hl
      have hne := hb2 c hc b hb hl hla e
      rw [getD_set_ne false (fun e' => e (Zb8 hst2 hc hb e'.symm))]
      exact ⟨m1, m2, ds, (k2 _ hne).trans m3, m4, fun h => k4 c hc ds (m5 h)⟩
    ·intro c hc d hd hlc hld hcd
     rw [getD_set_ne false (Ne.symm (ZbL sp.nums hc hb))] at hlc
     rw [getD_set_ne false (Ne.symm (ZbL sp.nums hd hb))] at hld
     exact hb2 c hc d hd hlc hld hcd
    ·intro c hc hl
     rw [getD_set_ne false (Ne.symm (ZbL sp.nums hc hb))]
     by_cases e : c = b
     ·subst e; exact hla
     ·rw [getD_set_ne false (fun e' => e (Zb8 hst2 hc hb e'.symm))] at hl
      exact hsa c hc hl
   ·have hno : ∀ b ∈ bs, b.al ≠ i ∧ b.st ≠ i := fun b hb => ⟨fun e => hA ⟨b, hb, e⟩, fun e => hS ⟨b, hb, e⟩⟩
    refine wpOp_mono ?_ (hot listed a w i o ho hno hi hp hJ)
    rintro a' w' ⟨kJ, kb, kt, ks⟩
    refine ⟨kJ, by omega, ⟨B, ?_, ?_⟩, Nat.le_trans hn kb.size, ?_⟩
    ·intro c hc hl
     rw [getD_set_ne false (Ne.symm (hno c hc).1)] at hl
     obtain ⟨m1, m2, ds, m3, m4, m5⟩ := hb1 c hc hl
     rw [getD_set_ne false (Ne.symm (hno c hc).2)]
     exact ⟨(kt c hc).trans m1, m2, ds, m3.below kb ν, m4, fun h => hG c hc ds _ _ (m5 h) kb⟩
    ·intro c hc d hd hlc hld hcd
     rw [getD_set_ne false (Ne.symm (hno c hc).1)] at hlc
     rw [getD_set_ne false (Ne.symm (hno d hd).1)] at hld
     exact hb2 c hc d hd hlc hld hcd
    ·intro c hc hl
     rw [getD_set_ne false (Ne.symm (hno c hc).2)] at hl
     rw [getD_set_ne false (Ne.symm (hno c hc).1)]
     exact hsa c hc hl
 ·rintro listed a w hall ⟨hJ, hsz, ⟨B, hb1, hb2⟩, hn, hsa⟩
  refine hend listed a w B hall hJ hsz (fun b hb => ?_) (fun b hb c hc => hb2 b hb c hc (hall _ (sp.lt b hb).1) (hall _ (sp.lt c hc).1))
  obtain ⟨h1, h2, cs, h3, h4, h5⟩ := hb1 b hb (hall _ (sp.lt b hb).1)
  exact ⟨h1, h2, cs, h3, h5 (hall _ (sp.lt b hb).2)⟩
theorem ZhO {bs : List BoxD} {B : Nat → Nat} : ∀ {a0 : Act}, (∀ b ∈ bs, b.slot < a0.tmps.size) →
  (bs.foldl (fun a b => a.put (some b.slot) (JI (B b.slot))) a0).defers = a0.defers ∧ (bs.foldl (fun a b => a.put (some b.slot) (JI (B b.slot))) a0).tmps.size = a0.tmps.size ∧
  ∀ t, (bs.foldl (fun a b => a.put (some b.slot) (JI (B b.slot))) a0).tmps[t]? = if t ∈ bs.map (·.slot) then some (JI (B t)) else a0.tmps[t]? := by
 induction bs with
 | nil => intro a0 _; exact ⟨rfl, rfl, fun t => by simp⟩
 | cons x xs ih =>
  intro a0 h
  have hx := h x (by simp)
  have hs : (a0.put (some x.slot) (JI (B x.slot))).tmps.size = a0.tmps.size := by simp [Act.put]
  obtain ⟨h1, h2, h3⟩ := ih (a0 := a0.put (some x.slot) (JI (B x.slot))) (fun b hb => by rw [hs]; exact h b (List.mem_cons_of_mem _ hb))
  simp only [List.foldl_cons]
  refine ⟨h1.trans rfl, h2.trans hs, fun t => ?_⟩
  rw [h3 t, Za0 hx]
  simp only [List.map_cons, List.mem_cons]
  by_cases e : t ∈ xs.map (·.slot)
  ·simp [e]
  ·by_cases e2 : x.slot = t
   ·subst e2; simp [e]
   ·simp [e, e2, Ne.symm e2]
def AllB (p : BoxD → Prop) : List BoxD → Prop
 | [] => True
 | b :: bs => p b ∧ AllB p bs
theorem AllB.mem {p : BoxD → Prop} : ∀ {bs : List BoxD}, AllB p bs → ∀ b ∈ bs, p b
 | b :: bs, h, c, hc => by
  rcases List.mem_cons.1 hc with rfl | hc
  ·exact h.1
  ·exact AllB.mem h.2 c hc
def JS (w : World) (B : Nat) : Nat → List Value → World
 | _, [] => w
 | k, v :: vs => JS (w.setCell ⟨B, k, none⟩ v) B (k + 1) vs
theorem Zca {B : Nat} {t : TypeId} : ∀ (vs : List Value) (k : Nat) (w : World) (pre post : List Value), pre.length = k → post.length = vs.length → Bx w B (pre ++ post).toArray t →
  Bx (JS w B k vs) B (pre ++ vs).toArray t ∧ (∀ c, c ≠ B → (JS w B k vs).heap[c]? = w.heap[c]?) ∧ (JS w B k vs).heap.size = w.heap.size ∧ ∀ n, n ≤ B → Below n w (JS w B k vs)
 | [], k, w, pre, post, hk, hp, hb => by
  have : post = [] := by simpa using hp
  subst this
  exact ⟨hb, fun _ _ => rfl, rfl, fun _ _ => Below.refl _ _⟩
 | v :: vs, k, w, pre, [], hk, hp, hb => by simp at hp
 | v :: vs, k, w, pre, z :: post, hk, hp, hb => by
  have h1 := hb.set k v
  have e : ((pre ++ z :: post).toArray.setIfInBounds k v) = ((pre ++ [v]) ++ post).toArray := by
   subst hk
   simp
  rw [e] at h1
  obtain ⟨i1, i2, i3, i4⟩ := Zca vs (k + 1) (w.setCell ⟨B, k, none⟩ v) (pre ++ [v]) post (by simp [hk]) (by simpa using hp) h1
  refine ⟨by simpa [JS] using i1, fun c hc => ?_, ?_, fun n hn => ?_⟩
  ·exact (i2 c hc).trans (heap_setCell_other w ⟨B, k, none⟩ c v hc)
  ·refine i3.trans ?_
   simp [World.setCell]
  ·exact ((Below.refl n w).setCell (p := ⟨B, k, none⟩) hn v).trans (i4 n hn)
end
end Go.Proofs.YtjdiilkljgljkaaGreatDoor
namespace Go.Proofs.YtjdiilkljgljkaaGreatDoor
set_option linter.unusedVariables false
set_option linter.unusedSimpArgs false
namespace Dd
def IsW (a : Int) : Prop := 0 ≤ a ∧ a < 65536
def lo (x : Int) : Int := x % 65536
def hi (x : Int) : Int := x / 65536 % 65536
def bor (x y c : Int) : Int := if x < y + c then 1 else 0
def msk (b : Bool) : Int := if b then 65535 else 0
theorem isW_lt_mul {a b : Int} (ha : IsW a) (hb : IsW b) : 0 ≤ a * b ∧ a * b ≤ 65535 * 65535 := by
 unfold IsW at *
 exact ⟨Int.mul_nonneg ha.1 hb.1, Int.mul_le_mul (by omega) (by omega) hb.1 (by omega)⟩
def S (i : Nat) : Int := 65536 ^ i
def qt (x : Int) (i : Nat) : Int := x / S i
def lmb (x : Int) (i : Nat) : Int := qt x i % 65536
def Fit (n : Nat) (x : Int) : Prop := -S n ≤ 2 * x ∧ 2 * x < S n
theorem S_zero : S 0 = 1 := rfl
theorem S_succ (i : Nat) : S (i + 1) = S i * 65536 := Int.pow_succ _ _
theorem S_pos (i : Nat) : 0 < S i := by
 induction i with
 | zero => rw [S_zero]; omega
 | succ n ih => rw [S_succ]; omega
theorem S_add (i j : Nat) : S (i + j) = S i * S j := Int.pow_add _ _ _
theorem S_le {i j : Nat} (h : i ≤ j) : S i ≤ S j := by
 induction j with
 | zero => rw [show i = 0 from by omega]; exact Int.le_refl _
 | succ n ih =>
  by_cases hi : i ≤ n
  ·have := ih hi; have := S_pos n; rw [S_succ]; omega
  ·rw [show i = n + 1 from by omega]; exact Int.le_refl _
theorem qt_zero (x : Int) : qt x 0 = x := by unfold qt; rw [S_zero, Int.ediv_one]
theorem qt_succ (x : Int) (i : Nat) : qt x (i + 1) = qt x i / 65536 := by
 unfold qt; rw [S_succ, Int.ediv_ediv_of_nonneg (Int.le_of_lt (S_pos i))]
theorem qt_add_mul (x t : Int) (i : Nat) : qt (x + t * S i) i = qt x i + t := by
 unfold qt; exact Int.add_mul_ediv_right x t (Int.ne_of_gt (S_pos i))
theorem isW_lmb (x : Int) (i : Nat) : IsW (lmb x i) := by unfold IsW lmb; omega
theorem lmb_zero (i : Nat) : lmb 0 i = 0 := by simp [lmb, qt]
theorem lmb_cong (x t : Int) {n i : Nat} (h : i < n) : lmb (x + t * S n) i = lmb x i := by
 obtain ⟨k, rfl⟩ : ∃ k, n = i + (k + 1) := ⟨n - i - 1, by omega⟩
 have e : t * S (i + (k + 1)) = (t * S k * 65536) * S i := by
  rw [S_add, S_succ, Int.mul_comm (S i), ← Int.mul_assoc, ← Int.mul_assoc]
 unfold lmb
 rw [e, qt_add_mul]
 omega
theorem fit_qt {n : Nat} {x : Int} (h : Fit n x) {i : Nat} (hi : n ≤ i) : qt x i = if x < 0 then -1 else 0 := by
 have h1 := S_pos n
 have h2 := S_le hi
 have h3 := S_pos i
 unfold Fit at h
 unfold qt
 split
 ·exact (Int.ediv_eq_iff_of_pos h3).2 ⟨by omega, by omega⟩
 ·exact Int.ediv_eq_zero_of_lt (by omega) (by omega)
theorem lmb_fill {n : Nat} {x : Int} (h : Fit n x) {i : Nat} (hi : n ≤ i) : lmb x i = msk (decide (x < 0)) := by
 unfold lmb msk
 rw [fit_qt h hi]
 by_cases h0 : x < 0 <;> simp [h0]
theorem fit_top {n : Nat} {x : Int} (h : Fit (n + 1) x) : -32768 ≤ qt x n ∧ qt x n < 32768 := by
 have h1 := S_pos n
 unfold Fit at h
 rw [S_succ] at h
 unfold qt
 constructor
 ·exact Int.le_ediv_of_mul_le h1 (by omega)
 ·exact Int.ediv_lt_of_lt_mul h1 (by omega)
theorem qt_neg {x : Int} {n : Nat} : qt x n < 0 ↔ x < 0 := by
 have h1 := S_pos n
 unfold qt
 constructor
 ·intro h
  rcases (by omega : x < 0 ∨ 0 ≤ x) with h0 | h0
  ·exact h0
  ·have := Int.ediv_nonneg h0 (Int.le_of_lt h1); omega
 ·intro h; exact Int.ediv_neg_of_neg_of_pos h h1
theorem top_neg {n : Nat} {x : Int} (h : Fit (n + 1) x) : 32768 ≤ lmb x n ↔ x < 0 := by
 have h1 := fit_top h
 have h2 := qt_neg (x := x) (n := n)
 unfold lmb
 omega
def car (x y : Int) (i : Nat) : Int := qt (x + y) i - qt x i - qt y i
theorem car_zero (x y : Int) : car x y 0 = 0 := by unfold car; rw [qt_zero, qt_zero, qt_zero]; omega
theorem car_le (x y : Int) (i : Nat) : 0 ≤ car x y i ∧ car x y i ≤ 1 := by
 induction i with
 | zero => rw [car_zero]; omega
 | succ n ih => unfold car at *; rw [qt_succ, qt_succ, qt_succ]; omega
theorem add_step (x y : Int) (i : Nat) : lo (lmb x i + lmb y i + car x y i % 2) = lmb (x + y) i ∧ (lmb x i + lmb y i + car x y i % 2) / 65536 = car x y (i + 1) := by
 have h := car_le x y i
 have e : car x y (i + 1) = qt (x + y) i / 65536 - qt x i / 65536 - qt y i / 65536 := by unfold car; rw [qt_succ, qt_succ, qt_succ]
 rw [e]
 unfold car at h
 unfold lo lmb car
 omega
def brw (x y : Int) (i : Nat) : Int := qt x i - qt y i - qt (x - y) i
theorem brw_zero (x y : Int) : brw x y 0 = 0 := by unfold brw; rw [qt_zero, qt_zero, qt_zero]; omega
theorem brw_le (x y : Int) (i : Nat) : 0 ≤ brw x y i ∧ brw x y i ≤ 1 := by
 induction i with
 | zero => rw [brw_zero]; omega
 | succ n ih => unfold brw at *; rw [qt_succ, qt_succ, qt_succ]; omega
theorem sub_step (x y : Int) (i : Nat) : lo (lmb x i - lmb y i - brw x y i % 2) = lmb (x - y) i ∧ bor (lmb x i) (lmb y i) (brw x y i % 2) = brw x y (i + 1) := by
 have h := brw_le x y i
 have e : brw x y (i + 1) = qt x i / 65536 - qt y i / 65536 - qt (x - y) i / 65536 := by unfold brw; rw [qt_succ, qt_succ, qt_succ]
 rw [e]
 unfold brw at h
 unfold lo lmb bor brw
 refine ⟨by omega, ?_⟩
 split <;> omega
theorem isW_car (x y : Int) (i : Nat) : IsW (car x y i) := by have := car_le x y i; unfold IsW; omega
theorem isW_brw (x y : Int) (i : Nat) : IsW (brw x y i) := by have := brw_le x y i; unfold IsW; omega
def prt (x y : Int) (i : Nat) : Int := (x - qt x i * S i) * y
theorem prt_zero (x y : Int) : prt x y 0 = 0 := by unfold prt; rw [qt_zero, S_zero, Int.mul_one, Int.sub_self, Int.zero_mul]
theorem prt_succ (x y : Int) (i : Nat) : prt x y (i + 1) = prt x y i + lmb x i * y * S i := by
 unfold prt lmb
 rw [qt_succ, S_succ]
 have e : qt x i = qt x i / 65536 * 65536 + qt x i % 65536 := by omega
 generalize qt x i / 65536 = u at *
 generalize qt x i % 65536 = v at *
 rw [e, Int.sub_mul, Int.sub_mul, Int.add_mul, Int.add_mul]
 have e1 : u * (S i * 65536) = u * 65536 * S i := by rw [Int.mul_assoc, Int.mul_comm (S i), ← Int.mul_assoc]
 have e2 : v * y * S i = v * S i * y := by rw [Int.mul_assoc, Int.mul_comm y, ← Int.mul_assoc]
 rw [e1, e2]
 omega
theorem prt_last (x y : Int) {n k : Nat} (h : k < n) : lmb (prt x y n) k = lmb (x * y) k := by
 have e : prt x y n = x * y + (-(qt x n * y)) * S n := by
  unfold prt; rw [Int.sub_mul, Int.neg_mul, Int.mul_assoc (qt x n), Int.mul_comm (S n), ← Int.mul_assoc]; omega
 rw [e, lmb_cong _ _ h]
def kar (x y : Int) (i j : Nat) : Int := qt (prt x y (i + 1)) (i + j) - qt (prt x y i) (i + j) - lmb x i * qt y j
theorem kar_zero (x y : Int) (i : Nat) : kar x y i 0 = 0 := by
 unfold kar; rw [prt_succ, Nat.add_zero, qt_add_mul, qt_zero]; omega
theorem mul_core {a p y k Q : Int} (ha : IsW a) (hk : IsW k) (hQ : Q - p - a * y = k) :
  lo (a * (y % 65536) + p % 65536 + k) = Q % 65536 ∧
  hi (a * (y % 65536) + p % 65536 + k) = Q / 65536 - p / 65536 - a * (y / 65536) ∧
  IsW (Q / 65536 - p / 65536 - a * (y / 65536)) := by
 have e : y = y / 65536 * 65536 + y % 65536 := by omega
 have hy : IsW (y % 65536) := by unfold IsW; omega
 have hp := isW_lt_mul ha hy
 have e2 : a * y = a * (y / 65536) * 65536 + a * (y % 65536) := by
  conv => lhs; rw [e]
  rw [Int.mul_add, Int.mul_assoc]
 rw [e2] at hQ
 generalize a * (y / 65536) = u at *
 generalize a * (y % 65536) = v at *
 unfold IsW lo hi at *
 omega
theorem kar_step (x y : Int) (i j : Nat) (hk : IsW (kar x y i j)) :
  lo (lmb x i * lmb y j + lmb (prt x y i) (i + j) + kar x y i j) = lmb (prt x y (i + 1)) (i + j) ∧
  hi (lmb x i * lmb y j + lmb (prt x y i) (i + j) + kar x y i j) = kar x y i (j + 1) ∧ IsW (kar x y i (j + 1)) := by
 have h := mul_core (a := lmb x i) (p := qt (prt x y i) (i + j)) (y := qt y j) (k := kar x y i j) (Q := qt (prt x y (i + 1)) (i + j)) (isW_lmb x i) hk rfl
 have e : kar x y i (j + 1) = qt (prt x y (i + 1)) (i + j) / 65536 - qt (prt x y i) (i + j) / 65536 - lmb x i * (qt y j / 65536) := by
  unfold kar; rw [← Nat.add_assoc, qt_succ, qt_succ, qt_succ]
 rw [e]
 exact h
theorem isW_kar (x y : Int) (i j : Nat) : IsW (kar x y i j) := by
 induction j with
 | zero => rw [kar_zero]; unfold IsW; omega
 | succ n ih => exact (kar_step x y i n ih).2.2
theorem prt_low (x y : Int) {i k : Nat} (h : k < i) : lmb (prt x y (i + 1)) k = lmb (prt x y i) k := by
 rw [prt_succ, lmb_cong _ _ h]
theorem qt_eq_of_lmb {x y : Int} : ∀ {n : Nat}, (∀ i, i < n → lmb x i = lmb y i) → ∃ t, x - y = t * S n
 | 0, _ => ⟨x - y, by rw [S_zero]; omega⟩
 | n + 1, h => by
  obtain ⟨t, ht⟩ := qt_eq_of_lmb (n := n) (fun i hi => h i (by omega))
  have h1 := h n (by omega)
  have e : x = y + t * S n := by omega
  rw [e] at h1
  unfold lmb at h1
  rw [qt_add_mul] at h1
  refine ⟨t / 65536, ?_⟩
  rw [S_succ, Int.mul_comm (S n), ← Int.mul_assoc, show t / 65536 * 65536 = t from by omega]
  exact ht
theorem eq_of_lmb {x y : Int} {n : Nat} (hx : Fit n x) (hy : Fit n y) (h : ∀ i, i < n → lmb x i = lmb y i) : x = y := by
 obtain ⟨t, ht⟩ := qt_eq_of_lmb h
 have hS := S_pos n
 unfold Fit at hx hy
 rcases (by omega : t = 0 ∨ 1 ≤ t ∨ t ≤ -1) with h0 | h0 | h0
 ·rw [h0] at ht; omega
 ·have : 1 * S n ≤ t * S n := Int.mul_le_mul_of_nonneg_right h0 (Int.le_of_lt hS)
  omega
 ·have : t * S n ≤ -1 * S n := Int.mul_le_mul_of_nonneg_right h0 (Int.le_of_lt hS)
  omega
theorem zero_of_lmb {x : Int} {n : Nat} (hx : Fit n x) (h : ∀ i, i < n → lmb x i = 0) : x = 0 :=
 eq_of_lmb hx (by have := S_pos n; unfold Fit; omega) (fun i hi => by rw [h i hi, lmb_zero])
theorem fit_mono {n m : Nat} {x : Int} (h : Fit n x) (hm : n ≤ m) : Fit m x := by
 have := S_le hm; unfold Fit at *; omega
end Dd
end Go.Proofs.YtjdiilkljgljkaaGreatDoor
namespace Go.Proofs.YtjdiilkljgljkaaGreatDoor
set_option linter.unusedVariables false
set_option linter.unusedSimpArgs false
open Go.RowKit
namespace Dd
def Fits (n : Nat) (p : Int) : Prop := 0 ≤ p ∧ p < S n
def Dg (n : Nat) (p : Int) : Prop := Fits n p ∧ (0 < n → S (n - 1) ≤ p)
theorem top_zero {n : Nat} {p : Int} (h : Fits (n + 1) p) : lmb p n = 0 ↔ p < S n := by
 have h1 := S_pos n
 unfold Fits at h
 rw [S_succ] at h
 have e : 0 ≤ qt p n ∧ qt p n < 65536 := ⟨Int.ediv_nonneg h.1 (Int.le_of_lt h1), Int.ediv_lt_of_lt_mul h1 (by omega)⟩
 unfold lmb
 have e2 : qt p n % 65536 = qt p n := by omega
 rw [e2]
 unfold qt
 constructor
 ·intro h0
  have := Int.lt_ediv_add_one_mul_self p h1
  rw [h0] at this; omega
 ·intro h0; exact Int.ediv_eq_zero_of_lt h.1 h0
theorem lmb_beyond {n : Nat} {p : Int} (h : Fits n p) {i : Nat} (hi : n ≤ i) : lmb p i = 0 := by
 have := S_le hi
 unfold Fits at h
 unfold lmb qt
 rw [Int.ediv_eq_zero_of_lt h.1 (by omega)]; rfl
theorem ZgZ {p : Int} (h : Fits 0 p) : p = 0 := by unfold Fits at h; rw [S_zero] at h; omega
theorem fits_mono {n m : Nat} {p : Int} (h : Fits n p) (hm : n ≤ m) : Fits m p := by have := S_le hm; unfold Fits at *; omega
theorem dg_zero {n : Nat} (h : Dg n 0) : n = 0 := by
 rcases Nat.eq_zero_or_pos n with h0 | h0
 ·exact h0
 ·have h1 := h.2 h0; have h2 := S_pos (n - 1); omega
theorem dg_pos {n : Nat} {p : Int} (h : Dg n p) (hp : p ≠ 0) : 0 < n := by
 rcases Nat.eq_zero_or_pos n with h0 | h0
 ·subst h0; exact absurd (ZgZ h.1) hp
 ·exact h0
theorem lmb_range (p : Int) (i : Nat) : 0 ≤ lmb p i ∧ lmb p i ≤ 65535 := by unfold lmb; omega
end Dd
theorem retI {k : IntKind} {a b : Int} (h : a = b) : Ending.returned (.int k a) = Ending.returned (.int k b) := by rw [h]
def lenS : Value → Nat | .slice _ n _ => n | _ => 0
theorem ZdZ (A : Option Addr) (n c : Nat) (p : Int) (w : World) (ha : Sl w .i64 A n c (Dd.lmb p)) (hp : Dd.Fits n p) :
  Calls Tryz.prog 93 #[.slice A n c] w fun e w' => (∃ k, e = .returned (.slice A k c) ∧ k ≤ n ∧ Dd.Dg k p) ∧ w = w' := by
 have hmax := ha.max; have hcap := ha.cap
 unfold maxLen at hmax
 have HA := η ha; have HP := η hp; clear ha hp
 go_enter Tryz.func93, Tryz.ntmps93
 go_wp2_with fail
 go_loop [0] (fun v => ∃ k : Nat, k ≤ n ∧ v = .slice A k c ∧ Dd.Fits k p) (fun v => lenS v)
 case atStart => exact ⟨n, Nat.le_refl _, rfl, HP.out⟩
 case round =>
  obtain ⟨k, hk, rfl, hf⟩ := hrel
  rcases Nat.eq_zero_or_pos k with h0 | h0
  ·subst h0
   have HF := η hf; clear hf
   go_wp2_with fail
   go_ret
   exact ⟨⟨0, rfl, Nat.zero_le _, HF.out, fun h => absurd h (by omega)⟩, rfl⟩
  ·obtain ⟨b, off, rfl, hlt, hc⟩ := HA.out.at_ (by omega)
   have c1 : w.cell? ⟨b, off + (k - 1), none⟩ = some (.int .i64 (Dd.lmb p (k - 1))) := hc (k - 1) (by omega)
   obtain ⟨j, rfl⟩ : ∃ j, k = j + 1 := ⟨k - 1, by omega⟩
   rw [Nat.add_sub_cancel] at c1
   have htz := Dd.top_zero hf
   by_cases hz : Dd.lmb p j = 0
   ·have hlow : Dd.Fits j p := ⟨hf.1, htz.1 hz⟩
    rw [hz] at c1
    have HL := η hlow
    clear hz htz hf hlow hc
    go_wp2_with fail
    go_round
    case rel => exact ⟨j, by omega, rfl, HL.out⟩
    case measure => simp [lenS]
   ·have hd : Dd.Dg (j + 1) p := ⟨hf, fun _ => by have := fun h => hz (htz.2 h); rw [Nat.add_sub_cancel]; omega⟩
    have hne : (Dd.lmb p j == 0) = false := by simpa using hz
    have HD := η hd
    clear hz htz hf hd hc
    go_wp2_with fail
    go_ret
    exact ⟨⟨j + 1, rfl, hk, HD.out⟩, rfl⟩
def Ty (w : World) (A : Option Addr) : Prop := ∀ a, A = some a → ∃ cs, w.heap[a.block]? = some (.cells cs 3 (0, 0))
theorem Ty.none_ (w : World) : Ty w none := fun a h => by cases h
theorem Ty.below {w w' : World} {A : Option Addr} {B : Nat} (h : Ty w A) (hb : Below B w w') (hB : w.heap.size ≤ B) : Ty w' A := fun a ha => by
 obtain ⟨cs, hc⟩ := h a ha
 have hlt : a.block < w.heap.size := by
  rcases Nat.lt_or_ge a.block w.heap.size with h1 | h1
  ·exact h1
  ·rw [Array.getElem?_eq_none h1] at hc; cases hc
 exact ⟨cs, (hb.block a.block (by omega)).trans hc⟩
theorem Ty.of_own {w : World} {base n c : Nat} {A : Option Addr} {xs : List Value} (h : w.ownsRow base 3 1 (.slice A n c) n xs) : Ty w A := fun a ha => by
 subst ha
 rcases h.2 with ⟨h1, _⟩ | ⟨g, cap, cur, h1, _, hh, _⟩
 ·cases h1
 ·injection h1 with h2; injection h2 with h3; subst h3; exact ⟨cur, hh⟩
def Nm (w : World) (A : Option Addr) (n c : Nat) (x : Int) : Prop := Sl w .i64 A n c (Dd.lmb x.natAbs) ∧ Dd.Dg n x.natAbs ∧ Ty w A
theorem Nm.below {w w' : World} {A : Option Addr} {n c B : Nat} {x : Int} (h : Nm w A n c x) (hb : Below B w w') (hB : w.heap.size ≤ B) : Nm w' A n c x := ⟨h.1.below hb hB, h.2.1, h.2.2.below hb hB⟩
theorem Nm.set_ {w : World} {A : Option Addr} {n c b o : Nat} {x : Int} {v : Value} {cs : Array Value} {t : TypeId} (h : Nm w A n c x) (hb : w.heap[b]? = some (.cells cs t (0, 0))) (ht : t ≠ 3) : Nm (w.setCell ⟨b, o, none⟩ v) A n c x := by
 have hne : ∀ a, A = some a → a.block ≠ b := fun a ha e => by
  obtain ⟨ds, hd⟩ := h.2.2 a ha
  rw [e, hb] at hd
  injection hd with hd
  injection hd with _ hd
  exact ht hd
 refine ⟨⟨h.1.cap, h.1.max, fun h0 => ?_⟩, h.2.1, fun a ha => ?_⟩
 ·obtain ⟨b', off, e, hlt, hc⟩ := h.1.at_ h0
  refine ⟨b', off, e, by simpa [World.setCell] using hlt, fun i hi => ?_⟩
  rw [World.cell?_setCell_other _ _ _ _ (by intro q; injection q with q1; exact hne _ e q1.symm)]
  exact hc i hi
 ·obtain ⟨ds, hd⟩ := h.2.2 a ha
  exact ⟨ds, (Below.heap_setCell w ⟨b, o, none⟩ v a.block (hne a ha)).trans hd⟩
theorem Zai (s : Int) (A : Option Addr) (n c : Nat) (p x : Int) (w : World) (ha : Sl w .i64 A n c (Dd.lmb p)) (hp : Dd.Fits n p) (hx : (x.natAbs : Int) = p) (hs : x ≠ 0 → s = sg x) (ht : Ty w A) :
  Calls Tryz.prog 58 #[.int .i64 s, .slice A n c] w fun e w' => (∃ A' k c', e = .returned (.agg #[.int .i64 (sg x), .slice A' k c']) ∧ k ≤ n ∧ Nm w' A' k c' x) ∧ Below w.heap.size w w' := by
 have hmax := ha.max; have hcap := ha.cap
 unfold maxLen at hmax
 have hb : Below w.heap.size w (w.alloc (.cells #[.int .i64 0, .slice none 0 0] 41)) := (Below.refl w.heap.size w).alloc ν _
 have HB := η hb
 have HA := η ha; have HP := η hp; have HT := η ht
 clear ha hp hb ht
 by_cases h0 : x = 0
 ·subst h0
  obtain rfl : p = 0 := by omega
  go_enter Tryz.func58, Tryz.ntmps58
  go_wp2_with fail
  refine (ZdZ A n c 0 _ (HA.out.below HB.out ν) HP.out).mono ?_
  rintro e w' ⟨⟨k, rfl, hk, hd⟩, rfl⟩
  obtain rfl := Dd.dg_zero hd
  go_wp2_with fail
  refine bodyPost_ret (v := .agg #[.int .i64 0, .slice none 0 0]) (by simp [results, Tryz.results58, go_sem]) rfl ⟨⟨none, 0, 0, rfl, Nat.zero_le _, Sl.none_, ?_, Ty.none_ _⟩, HB.out⟩
  exact hd
 ·have hs' := hs h0
  go_enter Tryz.func58, Tryz.ntmps58
  go_wp2_with fail
  refine (ZdZ A n c p _ (HA.out.below HB.out ν) HP.out).mono ?_
  rintro e w' ⟨⟨k, rfl, hk, hd⟩, rfl⟩
  have hk0 := Dd.dg_pos hd (by omega)
  have hne : ((k : Int) == 0) = false := by simp; omega
  go_wp2_with fail
  refine bodyPost_ret (v := .agg #[.int .i64 (sg x), .slice A k c]) (by simp [results, Tryz.results58, go_sem]) rfl ⟨⟨A, k, c, rfl, hk, ?_, ?_, HT.out.below ((Below.refl w.heap.size w).alloc ν _) ν⟩, (Below.refl w.heap.size w).alloc ν _⟩
  ·rw [hx]; exact (HA.out.alloc _).take_cap hk
  ·rw [hx]; exact hd
theorem ZbM (A : Option Addr) (n c : Nat) (p : Int) (i : Nat) (w : World) (ha : Sl w .i64 A n c (Dd.lmb p)) (hp : Dd.Fits n p) (hi : i ≤ 9223372036854775807) :
  Calls Tryz.prog 94 #[.slice A n c, .int .i64 i] w fun e w' => e = .returned (.int .i64 (Dd.lmb p i)) ∧ w = w' := by
 have hmax := ha.max; have hcap := ha.cap
 unfold maxLen at hmax
 by_cases h : i < n
 ·obtain ⟨b, off, rfl, hlt, hc⟩ := ha.at_ (by omega)
  have c1 := hc i h
  clear ha hp hc
  go_enter Tryz.func94, Tryz.ntmps94
  go_wp2_with fail
  go_ret
  exact ⟨rfl, rfl⟩
 ·have hz := Dd.lmb_beyond hp (i := i) (by omega)
  rw [hz]
  clear hz ha hp
  go_enter Tryz.func94, Tryz.ntmps94
  go_wp2_with fail
  go_ret
  exact ⟨rfl, rfl⟩
def cmpI (p q : Int) : Int := (p - q).sign
theorem ZeR {p q : Int} (h : p < q) : cmpI p q = -1 := by unfold cmpI; exact Int.sign_eq_neg_one_of_neg (by omega)
theorem ZeS {p q : Int} (h : q < p) : cmpI p q = 1 := by unfold cmpI; exact Int.sign_eq_one_of_pos (by omega)
theorem Zip {n m : Nat} {p q : Int} (hp : Dd.Dg n p) (hq : Dd.Dg m q) (h : n < m) : p < q := by
 have h1 := hq.2 (by omega)
 have h2 := Dd.S_le (show n ≤ m - 1 by omega)
 have h3 := hp.1.2
 omega
theorem Ziq {p q : Int} {k : Nat} (h : Dd.qt p k < Dd.qt q k) : p < q := by
 have h1 := Dd.S_pos k
 unfold Dd.qt at h
 rcases (by omega : p < q ∨ q ≤ p) with h2 | h2
 ·exact h2
 ·have := Int.ediv_le_ediv h1 h2; omega
set_option maxHeartbeats 400000 in
theorem Zcb (A A' : Option Addr) (n c m c' : Nat) (p q : Int) (w : World) (ha : Sl w .i64 A n c (Dd.lmb p)) (hp : Dd.Dg n p) (hb : Sl w .i64 A' m c' (Dd.lmb q)) (hq : Dd.Dg m q) :
  Calls Tryz.prog 61 #[.slice A n c, .slice A' m c'] w fun e w' => e = .returned (.int .i64 (cmpI p q)) ∧ ∃ nq, w' = w.drewN nq := by
 have hmax := ha.max; have hcap := ha.cap; have hmax' := hb.max; have hcap' := hb.cap
 unfold maxLen at hmax hmax'
 rcases (by omega : n < m ∨ m < n ∨ n = m) with h | h | h
 ·rw [ZeR (Zip hp hq h)]
  have hne : ((n : Int) != (m : Int)) = true := by simp; omega
  clear ha hp hb hq
  go_enter Tryz.func61, Tryz.ntmps61
  go_wp2_with fail
  go_ret
  exact ⟨rfl, 0, rfl⟩
 ·rw [ZeS (Zip hq hp h)]
  have hne : ((n : Int) != (m : Int)) = true := by simp; omega
  clear ha hp hb hq
  go_enter Tryz.func61, Tryz.ntmps61
  go_wp2_with fail
  go_ret
  exact ⟨rfl, 0, rfl⟩
 ·subst h
  have hne : ((n : Int) != (n : Int)) = false := by simp
  have HA := η ha; have HP := η hp; have HB := η hb; have HQ := η hq
  clear ha hp hb hq
  go_enter Tryz.func61, Tryz.ntmps61
  go_wp2_with fail
  go_loopw [5] (fun i wr => ∃ z : Int, i = .int .i64 z ∧ -1 ≤ z ∧ z < n ∧ Hid (Dd.qt p (z + 1).toNat = Dd.qt q (z + 1).toNat) ∧ ∃ nq, wr = w.drewN nq) (fun i _ => (intOf i + 1).toNat)
  case atStart =>
   refine ⟨(n : Int) - 1, rfl, by omega, by omega, ?_, 0, rfl⟩
   have e : ((n : Int) - 1 + 1).toNat = n := by omega
   show Dd.qt p _ = Dd.qt q _
   rw [e]
   unfold Dd.qt
   rw [Int.ediv_eq_zero_of_lt HP.out.1.1 HP.out.1.2, Int.ediv_eq_zero_of_lt HQ.out.1.1 HQ.out.1.2]
  case round =>
   obtain ⟨z, rfl, hz1, hz2, heq, nq, rfl⟩ := hrel
   rcases (by omega : z = -1 ∨ 0 ≤ z) with h0 | h0
   ·subst h0
    have e : p = q := by have := heq.out; rwa [show ((-1 : Int) + 1).toNat = 0 from rfl, Dd.qt_zero, Dd.qt_zero] at this
    have E := η e; clear e
    go_wp2_with fail
    go_ret
    exact ⟨by rw [E.out]; simp [cmpI], nq, rfl⟩
   ·obtain ⟨j, rfl⟩ := Int.eq_ofNat_of_zero_le h0
    rw [show ((j : Int) + 1).toNat = j + 1 from by omega, Dd.qt_succ, Dd.qt_succ] at heq
    obtain ⟨b, off, rfl, hlt, hc⟩ := HA.out.at_ (by omega)
    obtain ⟨b', off', rfl, hlt', hc'⟩ := HB.out.at_ (by omega)
    have c1 := hc j (by omega)
    have c2 := hc' j (by omega)
    clear hc hc'
    rcases (by omega : Dd.qt p j < Dd.qt q j ∨ Dd.qt q j < Dd.qt p j ∨ Dd.qt p j = Dd.qt q j) with hh | hh | hh
    ·have HE := η (ZeR (Ziq hh))
     have h3 : Dd.lmb p j < Dd.lmb q j := by have := heq.out; unfold Dd.lmb; omega
     have h4 : (Dd.lmb p j != Dd.lmb q j) = true := by simp; omega
     clear hh heq
     go_wp2_with fail
     go_quiet (fail)
     go_wp2_with fail
     go_quiet (fail)
     go_wp2_with fail
     go_ret
     exact ⟨retI HE.out.symm, _, by simp only [World.drewN_drewN]; rfl⟩
    ·have HE := η (ZeS (Ziq hh))
     have h3 : ¬ Dd.lmb p j < Dd.lmb q j := by have := heq.out; unfold Dd.lmb; omega
     have h4 : (Dd.lmb p j != Dd.lmb q j) = true := by have := heq.out; simp; unfold Dd.lmb; omega
     clear hh heq
     go_wp2_with fail
     go_quiet (fail)
     go_wp2_with fail
     go_quiet (fail)
     go_wp2_with fail
     go_ret
     exact ⟨retI HE.out.symm, _, by simp only [World.drewN_drewN]; rfl⟩
    ·have h4 : (Dd.lmb p j != Dd.lmb q j) = false := by unfold Dd.lmb; rw [hh]; simp
     have HH := η hh
     clear hh heq
     go_wp2_with fail
     go_quiet (fail)
     go_wp2_with fail
     go_roundw
     case rel => exact ⟨(j : Int) - 1, by go_num, by omega, by omega, by rw [show ((j : Int) - 1 + 1).toNat = j from by omega]; exact HH.out, _, by first | rfl | (simp only [World.drewN_drewN]; rfl)⟩
     case measure => simp [intOf]
theorem Nm.setB {w : World} {A : Option Addr} {n c b o : Nat} {x : Int} {v : Value} {cs : Array Value} {t : TypeId} (h : Nm w A n c x) (hb : Bx w b cs t) (ht : t ≠ 3) : Nm (w.setCell ⟨b, o, none⟩ v) A n c x := h.set_ hb ht
theorem Nm.alloc {w : World} {A : Option Addr} {n c : Nat} {x : Int} (h : Nm w A n c x) (o : Obj) : Nm (w.alloc o) A n c x := h.below ((Below.refl w.heap.size w).alloc ν o) ν
theorem ZeM {w : World} {A : Option Addr} {n c : Nat} {x : Int} (h : Nm w A n c x) : Nm w.drew A n c x := h.below (Je w) ν
theorem JA {w w' : World} {A : Option Addr} {n c : Nat} {x : Int} (h : Nm w A n c x) (hb : Below w.heap.size w w') : Nm w' A n c x := h.below hb ν
theorem ZeN {w : World} {A : Option Addr} {n c : Nat} {x : Int} {o : Obj} (h : Nm w A n c x) : Nm (w.alloc o) A n c x := h.alloc o
theorem Zcv {w : World} {A : Option Addr} {n c b : Nat} {x : Int} {z0 z1 v0 v1 : Value} {t : TypeId} (ht : t ≠ 3) (hb : Bx w b #[z0, z1] t) (h : Nm w A n c x) : Nm ((w.setCell ⟨b, 0, none⟩ v0).setCell ⟨b, 1, none⟩ v1) A n c x :=
 (h.setB hb ht).setB (hb.set 0 v0) ht
end Go.Proofs.YtjdiilkljgljkaaGreatDoor
