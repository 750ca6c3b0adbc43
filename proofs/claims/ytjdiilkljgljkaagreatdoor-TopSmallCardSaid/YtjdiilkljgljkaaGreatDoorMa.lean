/- Plain arithmetic of 64-bit words, used by the walks of this claim: what additions with carries, products of two words and masks come to. No program in sight; no condition. What a slice of integers holds, as a function of the index; how that is kept. Plain facts on memory; no program's run. A block that holds known cells: kept by what changes only newer blocks; its cells; stores into it, and what such a store leaves. Plain facts on memory; no program's run. Bytes of words, lowest first; slices of bytes as lists. Plain facts on memory; no program's run. Plain arithmetic of integers in two's complement: the limbs of an integer, the carries of sums and differences, the rows of a product. No program in sight. How an argument that is a slice of words is opened: it holds the limbs of an integer. Plain readings of values; no program's run. How arguments of fixed shape are opened: arrays of words. Plain readings of values; no program's run. How arguments are opened that are points, arrays of points, vectors of slices. Plain readings of values; no program's run. Plain geometry over Int: the determinant of three points, the lifted determinant of four; bounds. No program in sight. Slices of points: what they hold, as two functions of the index; how that is kept; how an argument that is one is opened; copy of points. Plain facts on memory; no program's run. Contracts of the reference's word and point: eight and sixteen bytes appended. A region that draws its order, shown by a condition on its states: for every set of operations that have come up a condition holds, each operation keeps it, and at the end it gives the post. A region that draws its order and makes variables: whatever the order, each variable lies in a box of its own with its value. Plain arithmetic of integers in base 65536: the digits of an integer, the carries of sums and differences, the rows of a product. No program in sight. -/
import Derived.Laws.BitsAllLaws
import Derived.Lib.Mul64
import Derived.WalkKit
import Derived.Lib.Hide
import Derived.Deep.Draws
import Derived.Test.YtjdiilkljgljkaaGreatDoorProg
import Derived.Laws.AppendOwn
import Derived.ProofKit
import Derived.OpenShut
import Derived.Deep.Slices
import Derived.Lib.SmallJoins
import Derived.Deep.SlicePairs
import Derived.Laws.CopyOwn
import Derived.LoopTactic
import Derived.OrdersHeld
import Derived.Deep.RegionHeld3
namespace Go.Proofs.YtjdiilkljgljkaaGreatDoor
set_option linter.unusedVariables false
set_option linter.unusedSimpArgs false
namespace Wd
open Go.RowKit

/-- a word: 0 to 2^64 - 1 -/
def IsW (a : Int) : Prop := 0 ≤ a ∧ a < 18446744073709551616
/-- the low word -/
def lo (x : Int) : Int := x % 18446744073709551616
/-- the second word -/
def hi (x : Int) : Int := x / 18446744073709551616 % 18446744073709551616
/-- a mask -/
def msk (b : Bool) : Int := if b then 18446744073709551615 else 0

/-- a number, or 0 -/
def gate (m : Bool) (a : Int) : Int := if m then a else 0
/-- a borrow -/
def bor (x y c : Int) : Int := if x < y + c then 1 else 0

theorem isW_lo (x : Int) : IsW (lo x) := by unfold IsW lo; omega
theorem isW_hi (x : Int) : IsW (hi x) := by unfold IsW hi; omega
theorem isW_wrap (x : Int) : IsW (IntKind.u64.wrap x) := by rw [IntKind.wrap_u64]; unfold IsW; omega
theorem isW_msk (b : Bool) : IsW (msk b) := by unfold IsW msk; cases b <;> decide
theorem isW_of_wf {a : Int} (h : (Lit.int .u64 a).wf = true) : IsW a := by
  have hmin : IntKind.u64.min = 0 := rfl
  have hmax : IntKind.u64.max = 18446744073709551615 := rfl
  simp only [Lit.wf, Bool.and_eq_true, decide_eq_true_eq] at h
  unfold IsW; omega
/-- a signed word -/
def IsI (a : Int) : Prop := -9223372036854775808 ≤ a ∧ a ≤ 9223372036854775807
theorem isI_of_wf {a : Int} (h : (Lit.int .i64 a).wf = true) : IsI a := by
  have hmin : IntKind.i64.min = -9223372036854775808 := rfl
  have hmax : IntKind.i64.max = 9223372036854775807 := rfl
  simp only [Lit.wf, Bool.and_eq_true, decide_eq_true_eq] at h
  unfold IsI; omega

theorem wrapU (n : Int) : IntKind.u64.wrap n = lo n := IntKind.wrap_u64 n
theorem lo_in {n : Int} (h : IsW n) : lo n = n := by unfold IsW at h; unfold lo; omega

theorem and_one {c : Int} (h : IsW c) : bits .and .u64 c 1 = c % 2 := by
  unfold IsW at h
  rw [u64_and c 1 h.1 h.2 (by omega) (by omega)]
  show ((c.toNat &&& 1 : Nat) : Int) = _
  rw [Nat.and_one_is_mod]; omega

theorem msk_of {c : Int} (h : IsW c) : lo (-bits .and .u64 c 1) = msk (decide (c % 2 = 1)) := by
  rw [and_one h]; unfold lo msk; by_cases hc : c % 2 = 1 <;> simp [hc] <;> omega

theorem half_lt {a : Nat} (h : a < 18446744073709551616) : a / 9223372036854775808 % 2 = a / 9223372036854775808 := by omega
theorem testBit_63 (a : Nat) : a.testBit 63 = decide (a / 9223372036854775808 % 2 = 1) := Nat.testBit_eq_decide_div_mod_eq

/-- the highest bit of a natural number of one word, as a number -/
theorem hi_and {a b : Nat} (ha : a < 18446744073709551616) : (a &&& b) / 9223372036854775808 = 1 ↔ 9223372036854775808 ≤ a ∧ b / 9223372036854775808 % 2 = 1 := by
  have h : (a &&& b) ≤ a := Nat.and_le_left
  have e := Nat.testBit_and a b 63
  rw [testBit_63, testBit_63, testBit_63] at e
  have := half_lt (a := a &&& b) (by omega)
  have := half_lt ha
  constructor
  · intro h1
    have : decide ((a &&& b) / 9223372036854775808 % 2 = 1) = true := by simp; omega
    rw [this] at e; simp at e; omega
  · intro ⟨h1, h2⟩
    have : decide (a / 9223372036854775808 % 2 = 1) = true := by simp; omega
    rw [this] at e; simp [h2] at e; omega
theorem hi_or {a b : Nat} (ha : a < 18446744073709551616) (hb : b < 18446744073709551616) : (a ||| b) / 9223372036854775808 = 1 ↔ 9223372036854775808 ≤ a ∨ 9223372036854775808 ≤ b := by
  have h : a ||| b < 2 ^ 64 := Nat.or_lt_two_pow (by omega) (by omega)
  have e := Nat.testBit_or a b 63
  rw [testBit_63, testBit_63, testBit_63] at e
  have h1 := half_lt (a := a ||| b) (by omega)
  have h2 := half_lt ha
  have h3 := half_lt hb
  rw [h1, h2, h3] at e
  by_cases ca : 9223372036854775808 ≤ a <;> by_cases cb : 9223372036854775808 ≤ b <;> by_cases cc : (a ||| b) / 9223372036854775808 = 1 <;> simp [ca, cb, cc] at e ⊢ <;> omega
theorem hi_xor {a b : Nat} (ha : a < 18446744073709551616) (hb : b < 18446744073709551616) : (a ^^^ b) / 9223372036854775808 = 1 ↔ ¬ (9223372036854775808 ≤ a ↔ 9223372036854775808 ≤ b) := by
  have h : a ^^^ b < 2 ^ 64 := Nat.xor_lt_two_pow (by omega) (by omega)
  have e := Nat.testBit_xor a b 63
  rw [testBit_63, testBit_63, testBit_63] at e
  have h1 := half_lt (a := a ^^^ b) (by omega)
  have h2 := half_lt ha
  have h3 := half_lt hb
  rw [h1, h2, h3] at e
  by_cases ca : 9223372036854775808 ≤ a <;> by_cases cb : 9223372036854775808 ≤ b <;> by_cases cc : (a ^^^ b) / 9223372036854775808 = 1 <;> simp [ca, cb, cc] at e ⊢ <;> omega

/-- '^a' -/
theorem not_w {a : Int} (h : IsW a) : bits .xor .u64 IntKind.u64.max a = 18446744073709551615 - a := by
  rw [show IntKind.u64.max = 18446744073709551615 from rfl]
  unfold IsW at h
  obtain ⟨n, rfl⟩ := Int.eq_ofNat_of_zero_le h.1
  rw [show (18446744073709551615 : Int) = ((18446744073709551615 : Nat) : Int) from rfl, u64_xor_nat 18446744073709551615 n (by omega) (by omega)]
  have e : 18446744073709551615 ^^^ n = 18446744073709551615 - n := by
    have hn : n < 2 ^ 64 := by omega
    have := BitVec.toNat_not (x := BitVec.ofNat 64 n)
    rw [← BitVec.allOnes_xor, BitVec.toNat_xor] at this
    simpa [Nat.mod_eq_of_lt hn] using this
  rw [e]; omega
theorem and_w {a b : Int} (ha : IsW a) (hb : IsW b) : IsW (bits .and .u64 a b) := by
  unfold IsW at *
  rw [u64_and a b ha.1 ha.2 hb.1 hb.2]
  have : a.toNat &&& b.toNat ≤ a.toNat := Nat.and_le_left
  omega
theorem or_w {a b : Int} (ha : IsW a) (hb : IsW b) : IsW (bits .or .u64 a b) := by
  unfold IsW at *
  rw [u64_or a b ha.1 ha.2 hb.1 hb.2]
  have : a.toNat ||| b.toNat < 2 ^ 64 := Nat.or_lt_two_pow (by omega) (by omega)
  omega
theorem xor_w {a b : Int} (ha : IsW a) (hb : IsW b) : IsW (bits .xor .u64 a b) := by
  unfold IsW at *
  rw [u64_xor a b ha.1 ha.2 hb.1 hb.2]
  have : a.toNat ^^^ b.toNat < 2 ^ 64 := Nat.xor_lt_two_pow (by omega) (by omega)
  omega
theorem and_msk (m : Bool) {a : Int} (ha : IsW a) : bits .and .u64 (msk m) a = if m then a else 0 := by
  have hm := isW_msk m
  have ha' := ha
  unfold IsW at *
  rw [u64_and _ a hm.1 hm.2 ha.1 ha.2]
  obtain ⟨n, rfl⟩ := Int.eq_ofNat_of_zero_le ha.1
  cases m
  · simp [msk]
  · show ((18446744073709551615 &&& n : Nat) : Int) = _
    rw [Nat.and_comm, show (18446744073709551615 : Nat) = 2 ^ 64 - 1 from rfl, Nat.and_two_pow_sub_one_eq_mod]
    simp; omega
theorem xor_comm_w {a b : Int} (ha : IsW a) (hb : IsW b) : bits .xor .u64 a b = bits .xor .u64 b a := by
  unfold IsW at *
  rw [u64_xor a b ha.1 ha.2 hb.1 hb.2, u64_xor b a hb.1 hb.2 ha.1 ha.2, Nat.xor_comm]
theorem and_comm_w {a b : Int} (ha : IsW a) (hb : IsW b) : bits .and .u64 a b = bits .and .u64 b a := by
  unfold IsW at *
  rw [u64_and a b ha.1 ha.2 hb.1 hb.2, u64_and b a hb.1 hb.2 ha.1 ha.2, Nat.and_comm]
theorem xor_zero_w {a : Int} (ha : IsW a) : bits .xor .u64 a 0 = a := by
  unfold IsW at *
  rw [u64_xor a 0 ha.1 ha.2 (by omega) (by omega)]; simp; omega
theorem xor_xor_w {a b : Int} (ha : IsW a) (hb : IsW b) : bits .xor .u64 b (bits .xor .u64 a b) = a := by
  have h := xor_w ha hb
  unfold IsW at *
  rw [u64_xor b _ hb.1 hb.2 h.1 h.2, u64_xor a b ha.1 ha.2 hb.1 hb.2]
  rw [Int.toNat_natCast, Nat.xor_comm a.toNat, ← Nat.xor_assoc, Nat.xor_self, Nat.zero_xor]
  omega
theorem and_gate (m : Bool) {a : Int} (ha : IsW a) : bits .and .u64 (msk m) a = gate m a := by rw [and_msk m ha]; rfl
/-- b ^ m&(a^b) -/
theorem select_w (m : Bool) {a b : Int} (ha : IsW a) (hb : IsW b) : bits .xor .u64 b (bits .and .u64 (msk m) (bits .xor .u64 a b)) = if m then a else b := by
  rw [and_msk m (xor_w ha hb)]
  cases m
  · simpa using xor_zero_w hb
  · simpa using xor_xor_w ha hb
/-- one of two numbers -/
def selI (m : Bool) (a b : Int) : Int := if m then a else b
theorem select_wI (m : Bool) {a b : Int} (ha : IsW a) (hb : IsW b) : bits .xor .u64 b (bits .and .u64 (msk m) (bits .xor .u64 a b)) = selI m a b := select_w m ha hb
theorem shr63 {a : Int} (h : IsW a) : IsW (a / 9223372036854775808) ∧ (a / 9223372036854775808) % 2 = a / 9223372036854775808 ∧ ((a / 9223372036854775808) % 2 = 1 ↔ 9223372036854775808 ≤ a) := by
  unfold IsW at *; omega
/-- ^(a | -a) has its highest bit just where a is 0 -/
theorem zero_w {a : Int} (h : IsW a) : (18446744073709551615 - bits .or .u64 a (lo (0 - a))) / 9223372036854775808 % 2 = if a = 0 then 1 else 0 := by
  have h2 := isW_lo (0 - a)
  have hor := or_w h h2
  have hh := h
  unfold IsW at h h2 hor
  rw [u64_or a _ h.1 h.2 h2.1 h2.2] at *
  obtain ⟨n, rfl⟩ := Int.eq_ofNat_of_zero_le h.1
  by_cases hz : n = 0
  · subst hz; simp [lo]
  · have e := hi_or (a := n) (b := (lo (0 - (n : Int))).toNat) (by omega) (by omega)
    have hl : lo (0 - (n : Int)) = 18446744073709551616 - n := by unfold lo; omega
    have : (9223372036854775808 ≤ n ∨ 9223372036854775808 ≤ (lo (0 - (n : Int))).toNat) := by omega
    have e1 := e.2 this
    simp only [Int.toNat_natCast]
    rw [if_neg (by omega)]
    omega
/-- ^a&b | ^(a^b)&(a-b) has its highest bit just where a < b -/
theorem less_w {a b : Int} (ha : IsW a) (hb : IsW b) :
    bits .or .u64 (bits .and .u64 (18446744073709551615 - a) b) (bits .and .u64 (18446744073709551615 - bits .xor .u64 a b) (lo (a - b))) / 9223372036854775808 % 2 = if a < b then 1 else 0 := by
  have hna : IsW (18446744073709551615 - a) := by unfold IsW at *; omega
  have hx := xor_w ha hb
  have hnx : IsW (18446744073709551615 - bits .xor .u64 a b) := by unfold IsW at *; omega
  have hd := isW_lo (a - b)
  have h1 := and_w hna hb
  have h2 := and_w hnx hd
  have h3 := or_w h1 h2
  have hld : lo (a - b) = (a - b) % 18446744073709551616 := rfl
  unfold IsW at *
  rw [u64_or _ _ h1.1 h1.2 h2.1 h2.2] at *
  rw [u64_and _ _ hna.1 hna.2 hb.1 hb.2] at *
  rw [u64_and _ _ hnx.1 hnx.2 hd.1 hd.2] at *
  rw [u64_xor _ _ ha.1 ha.2 hb.1 hb.2] at *
  generalize hdd : lo (a - b) = d at *
  obtain ⟨n, rfl⟩ := Int.eq_ofNat_of_zero_le ha.1
  obtain ⟨m, rfl⟩ := Int.eq_ofNat_of_zero_le hb.1
  obtain ⟨k, rfl⟩ := Int.eq_ofNat_of_zero_le hd.1
  simp only [Int.toNat_natCast] at *
  have x1 := hi_xor (a := n) (b := m) (by omega) (by omega)
  generalize n ^^^ m = x at *
  have a1 := hi_and (a := (18446744073709551615 - (n : Int)).toNat) (b := m) (by omega)
  have a2 := hi_and (a := (18446744073709551615 - (x : Int)).toNat) (b := k) (by omega)
  generalize (18446744073709551615 - (n : Int)).toNat &&& m = y at *
  generalize (18446744073709551615 - (x : Int)).toNat &&& k = z at *
  have o1 := hi_or (a := y) (b := z) (by omega) (by omega)
  generalize y ||| z = q at *
  split <;> omega
/-- x ^ 2^63 -/
theorem flip_w {a : Int} (ha : IsW a) : bits .xor .u64 a 9223372036854775808 = lo (a + 9223372036854775808) := by
  unfold IsW at *
  rw [u64_xor a _ ha.1 ha.2 (by omega) (by omega)]
  obtain ⟨n, rfl⟩ := Int.eq_ofNat_of_zero_le ha.1
  show ((n ^^^ 9223372036854775808 : Nat) : Int) = _
  have h1 : (n ^^^ 9223372036854775808) % 2 ^ 63 = _ := Nat.xor_mod_two_pow
  have h2 : (n ^^^ 9223372036854775808) < 2 ^ 64 := Nat.xor_lt_two_pow (by omega) (by omega)
  have h3 := hi_xor (a := n) (b := 9223372036854775808) (by omega) (by omega)
  rw [show (9223372036854775808 : Nat) % 2 ^ 63 = 0 from rfl, Nat.xor_zero] at h1
  unfold lo; omega

/-! products of two words -/
theorem lo_add_lo (x y : Int) : lo (lo x + y) = lo (x + y) := by unfold lo; omega
theorem isW_lt_mul {a b : Int} (ha : IsW a) (hb : IsW b) : 0 ≤ a * b ∧ a * b ≤ 18446744073709551615 * 18446744073709551615 := by
  unfold IsW at *
  exact ⟨Int.mul_nonneg ha.1 hb.1, Int.mul_le_mul (by omega) (by omega) hb.1 (by omega)⟩
/-- the product of two words plus two words, in MulAdd's steps -/
theorem mulAdd_steps {p c d : Int} (hp : 0 ≤ p ∧ p ≤ 18446744073709551615 * 18446744073709551615) (hc : IsW c) (hd : IsW d) :
    lo (lo (lo p + c) + d) = lo (p + c + d) ∧
    lo (lo (hi p + (lo p + c) / 18446744073709551616) + (lo (lo p + c) + d) / 18446744073709551616) = hi (p + c + d) := by
  unfold IsW lo hi at *; omega
theorem sq_bd {a : Int} (h : IsI a) : 0 ≤ a * a ∧ a * a ≤ 9223372036854775808 * 9223372036854775808 := by
  unfold IsI at h
  rcases (by omega : 0 ≤ a ∨ a < 0) with h0 | h0
  · exact ⟨Int.mul_nonneg h0 h0, Int.mul_le_mul (by omega) (by omega) h0 (by omega)⟩
  · rw [← Int.neg_mul_neg a a]
    exact ⟨Int.mul_nonneg (by omega) (by omega), Int.mul_le_mul (by omega) (by omega) (by omega) (by omega)⟩
/-- the signed product out of the unsigned one: two corrections of the high word -/
theorem signed_lo {a b : Int} : lo (lo a * lo b) = lo (a * b) := by
  unfold lo
  rw [← Int.mul_emod]
theorem signed_hi {a b : Int} (ha : IsI a) (hb : IsI b) :
    lo (lo (hi (lo a * lo b) - gate (decide (a < 0)) (lo b)) - gate (decide (b < 0)) (lo a)) = hi (a * b) := by
  simp only [gate, decide_eq_true_eq]
  have la : lo a = if a < 0 then a + 18446744073709551616 else a := by unfold IsI lo at *; split <;> omega
  have lb : lo b = if b < 0 then b + 18446744073709551616 else b := by unfold IsI lo at *; split <;> omega
  rw [la, lb]
  by_cases h1 : a < 0 <;> by_cases h2 : b < 0 <;> simp only [h1, h2, if_true, if_false]
  · have e : (a + 18446744073709551616) * (b + 18446744073709551616) = a * b + (a + b) * 18446744073709551616 + 18446744073709551616 * 18446744073709551616 := by
      rw [Int.add_mul, Int.mul_add, Int.mul_add, Int.add_mul]; omega
    rw [e]; generalize a * b = p; unfold lo hi; omega
  · have e : (a + 18446744073709551616) * b = a * b + b * 18446744073709551616 := by rw [Int.add_mul]; omega
    rw [e]; generalize a * b = p; unfold lo hi; omega
  · have e : a * (b + 18446744073709551616) = a * b + a * 18446744073709551616 := by rw [Int.mul_add]
    rw [e]; generalize a * b = p; unfold lo hi; omega
  · generalize a * b = p; unfold lo hi; omega
/-- the school method by halves, as the reference does it -/
theorem halves {a b c d : Int} (ha : IsW a) (hb : IsW b) (hc : IsW c) (hd : IsW d) :
    ∃ x y z v : Int, x = (a % 4294967296) * (b % 4294967296) ∧ y = (a % 4294967296) * (b / 4294967296) ∧ z = (a / 4294967296) * (b % 4294967296) ∧ v = (a / 4294967296) * (b / 4294967296) ∧
      (0 ≤ x ∧ x ≤ 18446744065119617025) ∧ (0 ≤ y ∧ y ≤ 18446744065119617025) ∧ (0 ≤ z ∧ z ≤ 18446744065119617025) ∧ (0 ≤ v ∧ v ≤ 18446744065119617025) ∧
      a * b = v * 18446744073709551616 + (y + z) * 4294967296 + x := by
  have key : ∀ {p q : Int}, 0 ≤ p → p ≤ 4294967295 → 0 ≤ q → q ≤ 4294967295 → 0 ≤ p * q ∧ p * q ≤ 18446744065119617025 := by
    intro p q h1 h2 h3 h4
    exact ⟨Int.mul_nonneg h1 h3, by have := Int.mul_le_mul h2 h4 h3 (by omega : (0 : Int) ≤ 4294967295); omega⟩
  unfold IsW at *
  refine ⟨_, _, _, _, rfl, rfl, rfl, rfl, key (by omega) (by omega) (by omega) (by omega), key (by omega) (by omega) (by omega) (by omega), key (by omega) (by omega) (by omega) (by omega), key (by omega) (by omega) (by omega) (by omega), ?_⟩
  have e1 : a = (a / 4294967296) * 4294967296 + a % 4294967296 := by omega
  have e2 : b = (b / 4294967296) * 4294967296 + b % 4294967296 := by omega
  generalize a / 4294967296 = a1 at *
  generalize a % 4294967296 = a0 at *
  generalize b / 4294967296 = b1 at *
  generalize b % 4294967296 = b0 at *
  subst e1 e2
  rw [Int.add_mul, Int.mul_add, Int.mul_add]
  rw [show a1 * 4294967296 * (b1 * 4294967296) = (a1 * b1) * 18446744073709551616 from by rw [Int.mul_assoc, ← Int.mul_assoc 4294967296, Int.mul_comm 4294967296 b1, Int.mul_assoc b1, ← Int.mul_assoc]; rfl]
  rw [show a1 * 4294967296 * b0 = (a1 * b0) * 4294967296 from by rw [Int.mul_assoc, Int.mul_comm 4294967296 b0, ← Int.mul_assoc]]
  rw [show a0 * (b1 * 4294967296) = (a0 * b1) * 4294967296 from by rw [← Int.mul_assoc]]
  omega
end Wd
end Go.Proofs.YtjdiilkljgljkaaGreatDoor
namespace Go.Proofs.YtjdiilkljgljkaaGreatDoor
set_option linter.unusedVariables false
set_option linter.unusedSimpArgs false
open Go.RowKit

/-- the slice '.slice A n c' holds the integers f 0 .. f (n-1) of kind k -/
structure Sl (w : World) (k : IntKind) (A : Option Addr) (n c : Nat) (f : Nat → Int) : Prop where
  cap : n ≤ c
  max : c ≤ maxLen
  at_ : 0 < n → ∃ b off, A = some ⟨b, off, none⟩ ∧ b < w.heap.size ∧ ∀ i, i < n → w.cell? ⟨b, off + i, none⟩ = some (.int k (f i))

theorem Sl.below {w w' : World} {B : Nat} {k : IntKind} {A : Option Addr} {n c : Nat} {f : Nat → Int} (h : Sl w k A n c f) (hb : Below B w w') (hB : w.heap.size ≤ B) : Sl w' k A n c f :=
  ⟨h.cap, h.max, fun hn => by
    obtain ⟨b, off, e, hlt, hc⟩ := h.at_ hn
    exact ⟨b, off, e, Nat.lt_of_lt_of_le hlt hb.size, fun i hi => (hb.cell (p := ⟨b, off + i, none⟩) (by show b < B; omega)).trans (hc i hi)⟩⟩
theorem Sl.congr {w : World} {k : IntKind} {A : Option Addr} {n c : Nat} {f g : Nat → Int} (h : Sl w k A n c f) (he : ∀ i, i < n → f i = g i) : Sl w k A n c g :=
  ⟨h.cap, h.max, fun hn => by
    obtain ⟨b, off, e, hlt, hc⟩ := h.at_ hn
    exact ⟨b, off, e, hlt, fun i hi => by rw [hc i hi, he i hi]⟩⟩
theorem Sl.none_ {w : World} {k : IntKind} {f : Nat → Int} : Sl w k none 0 0 f := ⟨Nat.le_refl _, Nat.zero_le _, fun h => absurd h (by omega)⟩
theorem Sl.alloc {w : World} {k : IntKind} {A : Option Addr} {n c : Nat} {f : Nat → Int} (h : Sl w k A n c f) (o : Obj) : Sl (w.alloc o) k A n c f :=
  h.below ((Below.refl w.heap.size w).alloc (Nat.le_refl _) o) (Nat.le_refl _)
theorem Sl.drew {w : World} {k : IntKind} {A : Option Addr} {n c : Nat} {f : Nat → Int} (h : Sl w k A n c f) : Sl w.drew k A n c f := h.below (Below.refl w.heap.size w).drew (Nat.le_refl _)

/-- the cells f 0 .. f (n-1) -/
def row (k : IntKind) (f : Nat → Int) (n : Nat) : List Value := (List.range n).map fun i => Value.int k (f i)
theorem row_length (k : IntKind) (f : Nat → Int) (n : Nat) : (row k f n).length = n := by simp [row]
theorem row_get {k : IntKind} {f : Nat → Int} {n i : Nat} (h : i < n) : (row k f n)[i]? = some (.int k (f i)) := by simp [row, h]
theorem row_get_inv {k : IntKind} {f : Nat → Int} {n i : Nat} {u : Value} (h : (row k f n)[i]? = some u) : i < n ∧ u = .int k (f i) := by
  have hi : i < n := by
    rcases Nat.lt_or_ge i n with h1 | h1
    · exact h1
    · rw [List.getElem?_eq_none (by rw [row_length]; exact h1)] at h; cases h
  rw [row_get hi] at h
  exact ⟨hi, (Option.some.inj h).symm⟩
theorem row_succ (k : IntKind) (f : Nat → Int) (n : Nat) : row k f (n + 1) = row k f n ++ [.int k (f n)] := by simp [row, List.range_succ]
theorem row_congr {k : IntKind} {f g : Nat → Int} {n : Nat} (h : ∀ i, i < n → f i = g i) : row k f n = row k g n := by
  unfold row
  exact List.map_congr_left fun i hi => by rw [h i (List.mem_range.1 hi)]
theorem row_one (k : IntKind) (f : Nat → Int) (n : Nat) : ∀ u ∈ row k f n, u.oneCell' = true := by
  intro u hu
  simp only [row, List.mem_map] at hu
  obtain ⟨i, _, rfl⟩ := hu
  rfl

/-- a row of the call's own is a slice that holds it -/
theorem Sl.of_own {w : World} {base : Nat} {e : TypeId} {k : IntKind} {v : Value} {n : Nat} {f : Nat → Int} (h : w.ownsRow base e 1 v n (row k f n)) : ∃ A c, v = .slice A n c ∧ Sl w k A n c f := by
  rcases h.2 with ⟨rfl, rfl⟩ | ⟨g, cap, cur, rfl, hg, hh, hn, hm, hs, ht⟩
  · exact ⟨none, 0, rfl, Sl.none_⟩
  · have hlt : g < w.heap.size := by
      rcases Nat.lt_or_ge g w.heap.size with h1 | h1
      · exact h1
      · rw [Array.getElem?_eq_none h1] at hh; cases hh
    refine ⟨_, cap, rfl, hn, hm, fun h0 => ⟨g, 0, rfl, hlt, fun i hi => ?_⟩⟩
    rw [Nat.zero_add, World.ownsRow.cellAt h i (by omega), row_get hi]

/-- an address of the list cells that the laws on append ask for -/
theorem Sl.cells {w : World} {k : IntKind} {b off n c : Nat} {f : Nat → Int} (h : ∀ i, i < n → w.cell? ⟨b, off + i, none⟩ = some (.int k (f i))) : ∀ j u, (row k f n)[j]? = some u → w.cell? ((⟨b, off, none⟩ : Addr).add j) = some u := by
  intro j u hu
  obtain ⟨hj, rfl⟩ := row_get_inv hu
  rw [← h j hj]
  unfold Addr.add
  by_cases h0 : j = 0 <;> simp [h0]

/-- a shorter part from the head -/
theorem Sl.take {w : World} {k : IntKind} {A : Option Addr} {n c m : Nat} {f : Nat → Int} (h : Sl w k A n c f) (hm : m ≤ n) : Sl w k A m m f :=
  ⟨Nat.le_refl _, Nat.le_trans hm (Nat.le_trans h.cap h.max), fun h0 => by
    obtain ⟨b, off, e, hlt, hc⟩ := h.at_ (by omega)
    exact ⟨b, off, e, hlt, fun i hi => hc i (by omega)⟩⟩
theorem Sl.take_cap {w : World} {k : IntKind} {A : Option Addr} {n c m : Nat} {f : Nat → Int} (h : Sl w k A n c f) (hm : m ≤ n) : Sl w k A m c f :=
  ⟨Nat.le_trans hm h.cap, h.max, fun h0 => by
    obtain ⟨b, off, e, hlt, hc⟩ := h.at_ (by omega)
    exact ⟨b, off, e, hlt, fun i hi => hc i (by omega)⟩⟩
theorem cells_one_new (w : World) (v : Value) (t : TypeId) : ∀ j u, [v][j]? = some u → (w.alloc (.cells #[v] t)).cell? ((⟨w.heap.size, 0, none⟩ : Addr).add j) = some u := by
  intro j u hj
  match j, hj with
  | 0, hj => simp at hj; subst hj; simp [Addr.add]
theorem one_oneCell (k : IntKind) (x : Int) : ∀ u ∈ [Value.int k x], u.oneCell' = true := by intro u hu; simp at hu; subst hu; rfl
theorem own_push {w : World} {base : Nat} {e : TypeId} {k : IntKind} {v : Value} {n : Nat} {f : Nat → Int} {y : Int} (h : w.ownsRow base e 1 v (n + 1) (row k f n ++ [.int k y])) (hy : y = f n) : w.ownsRow base e 1 v (n + 1) (row k f (n + 1)) := by
  subst hy; rw [row_succ]; exact h
theorem own_block_le {w : World} {base : Nat} {e : TypeId} {size n : Nat} {v : Value} {xs : List Value} (h : w.ownsRow base e size v n xs) : ∀ k, v.ownBlock = some k → base ≤ k := fun k hk => (h.lt k hk).1

/-- the first k of r, then zeros -/
def upd (r : Nat → Int) (k : Nat) : Nat → Int := fun i => if i < k then r i else 0
theorem row_set {k : IntKind} {r : Nat → Int} {n j : Nat} {y : Int} (hy : y = r j) (hj : j < n) : (row k (upd r j) n).set j (.int k y) = row k (upd r (j + 1)) n := by
  subst hy
  apply List.ext_getElem
  · simp [row]
  · intro i h1 h2
    rw [List.getElem_set]
    simp only [row, List.getElem_map, List.getElem_range, upd]
    by_cases h : j = i
    · subst h; simp
    · rw [if_neg h]
      by_cases h3 : i < j
      · rw [if_pos h3, if_pos (by omega)]
      · rw [if_neg h3, if_neg (by omega)]
theorem row_zero (k : IntKind) (r : Nat → Int) (n : Nat) : List.replicate n (Value.int k 0) = row k (upd r 0) n := by
  apply List.ext_getElem
  · simp [row]
  · intro i h1 h2
    simp [row, upd]
theorem row_upd_all {k : IntKind} {r : Nat → Int} {n : Nat} : row k (upd r n) n = row k r n := row_congr fun i hi => by simp [upd, hi]

theorem cell_far {w : World} {p q : Addr} {v u : Value} (h : w.cell? q = some u) (hne : q.block ≠ p.block) : ((w.setCell p v).drew).cell? q = some u := by
  rw [World.cell?_drew, World.cell?_setCell_other _ _ _ _ (fun e => hne (by rw [e]))]; exact h

theorem own_store {w : World} {base : Nat} {e : TypeId} {k : IntKind} {g n c j : Nat} {r : Nat → Int} {y : Int} (h : w.ownsRow base e 1 (.slice (some ⟨g, 0, none⟩) n c) n (row k (upd r j) n)) (hy : y = r j) (hj : j < n) :
    (w.setCell ⟨g, j, none⟩ (.int k y)).ownsRow base e 1 (.slice (some ⟨g, 0, none⟩) n c) n (row k (upd r (j + 1)) n) := by
  rw [← row_set hy hj]; exact (World.ownsRow.stored h j _).1

theorem row_set_gen {k : IntKind} {f g : Nat → Int} {n j : Nat} {y : Int} (hy : y = g j) (he : ∀ i, i < n → i ≠ j → f i = g i) : (row k f n).set j (.int k y) = row k g n := by
  subst hy
  apply List.ext_getElem
  · simp [row]
  · intro i h1 h2
    rw [List.getElem_set]
    simp only [row, List.getElem_map, List.getElem_range]
    simp [row] at h2
    by_cases h : j = i
    · subst h; simp
    · rw [if_neg h, he i h2 (by omega)]
theorem own_set {w : World} {base : Nat} {e : TypeId} {k : IntKind} {b n c j : Nat} {f g : Nat → Int} {y : Int} (h : w.ownsRow base e 1 (.slice (some ⟨b, 0, none⟩) n c) n (row k f n)) (hy : y = g j) (he : ∀ i, i < n → i ≠ j → f i = g i) :
    (w.setCell ⟨b, j, none⟩ (.int k y)).ownsRow base e 1 (.slice (some ⟨b, 0, none⟩) n c) n (row k g n) := by
  rw [← row_set_gen hy he]; exact (World.ownsRow.stored h j _).1
theorem own_congr {w : World} {base : Nat} {e : TypeId} {k : IntKind} {v : Value} {n : Nat} {f g : Nat → Int} (h : w.ownsRow base e 1 v n (row k f n)) (he : ∀ i, i < n → f i = g i) : w.ownsRow base e 1 v n (row k g n) := by
  rw [← row_congr he]; exact h
theorem own_cell {w : World} {base : Nat} {e : TypeId} {k : IntKind} {b n c j : Nat} {f : Nat → Int} (h : w.ownsRow base e 1 (.slice (some ⟨b, 0, none⟩) n c) n (row k f n)) (hj : j < n) : w.cell? ⟨b, j, none⟩ = some (.int k (f j)) := by
  rw [World.ownsRow.cellAt h j (by omega), row_get hj]
end Go.Proofs.YtjdiilkljgljkaaGreatDoor
namespace Go.Proofs.YtjdiilkljgljkaaGreatDoor
set_option linter.unusedVariables false
set_option linter.unusedSimpArgs false
open Go.RowKit

def Bx (w : World) (b : Nat) (cs : Array Value) (t : TypeId) : Prop := w.heap[b]? = some (.cells cs t (0, 0))
theorem Bx.lt {w : World} {b : Nat} {cs : Array Value} {t : TypeId} (h : Bx w b cs t) : b < w.heap.size := by
  rcases Nat.lt_or_ge b w.heap.size with h1 | h1
  · exact h1
  · unfold Bx at h; rw [Array.getElem?_eq_none h1] at h; cases h
theorem Bx.below {w w' : World} {b B : Nat} {cs : Array Value} {t : TypeId} (h : Bx w b cs t) (hb : Below B w w') (hB : w.heap.size ≤ B) : Bx w' b cs t :=
  (hb.block b (Nat.lt_of_lt_of_le h.lt hB)).trans h
theorem Bx.new (w : World) (cs : Array Value) (t : TypeId) : Bx (w.alloc (.cells cs t)) w.heap.size cs t := heap_alloc_new _ _
theorem Bx.alloc {w : World} {b : Nat} {cs : Array Value} {t : TypeId} (h : Bx w b cs t) (o : Obj) : Bx (w.alloc o) b cs t := h.below ((Below.refl w.heap.size w).alloc (Nat.le_refl _) o) (Nat.le_refl _)
theorem Bx.cell {w : World} {b : Nat} {cs : Array Value} {t : TypeId} (h : Bx w b cs t) (i : Nat) {v : Value} (hi : cs[i]? = some v) : w.cell? ⟨b, i, none⟩ = some v := by
  unfold Bx at h; simp [World.cell?, h, hi]
theorem Bx.free {w : World} {b : Nat} {cs : Array Value} {t : TypeId} (h : Bx w b cs t) (i : Nat) : w.frozen? ⟨b, i, none⟩ = false := by
  unfold Bx at h; simp [World.frozen?, h]
theorem Bx.set {w : World} {b : Nat} {cs : Array Value} {t : TypeId} (h : Bx w b cs t) (i : Nat) (v : Value) : Bx (w.setCell ⟨b, i, none⟩ v) b (cs.setIfInBounds i v) t := heap_setCell_same _ _ _ _ _ _ h
theorem Bx.other {w : World} {b : Nat} {cs : Array Value} {t : TypeId} (h : Bx w b cs t) {a : Addr} (v : Value) (hne : b ≠ a.block) : Bx (w.setCell a v) b cs t := (heap_setCell_other w a b v hne).trans h
theorem keep_set {w : World} {p a : Addr} {v u : Value} (h : w.cell? a = some u) (hne : a.block ≠ p.block) : (w.setCell p v).cell? a = some u := by
  rw [World.cell?_setCell_other _ _ _ _ (fun e => hne (by rw [e]))]; exact h
theorem lt_of_cell' {w : World} {b o : Nat} {v : Value} (h : w.cell? ⟨b, o, none⟩ = some v) : b < w.heap.size := block_lt_of_cell h
theorem keep_drew {w : World} {a : Addr} {u : Value} (h : w.cell? a = some u) : w.drew.cell? a = some u := by rw [World.cell?_drew]; exact h
/-- a store into a block without cells of the slice's kind turns no slice -/
theorem Sl.set {w : World} {k : IntKind} {A : Option Addr} {n c b o : Nat} {f : Nat → Int} {cs : Array Value} {t : TypeId} {v : Value} (h : Sl w k A n c f) (hb : Bx w b cs t) (hne : ∀ u ∈ cs.toList, ∀ x, u ≠ .int k x) : Sl (w.setCell ⟨b, o, none⟩ v) k A n c f :=
  ⟨h.cap, h.max, fun h0 => by
    obtain ⟨b', off, e, hlt, hc⟩ := h.at_ h0
    have hbb : b' ≠ b := fun e2 => by
      subst e2
      have h1 := hc 0 h0
      unfold Bx at hb
      simp [World.cell?, hb] at h1
      exact hne _ (by simpa using Array.mem_of_getElem? h1) _ rfl
    refine ⟨b', off, e, by simpa [World.setCell] using hlt, fun i hi => ?_⟩
    exact keep_set (hc i hi) hbb⟩
theorem below_al {w w' : World} {o : Obj} (h : Below w.heap.size w w') : Below w.heap.size w (w'.alloc o) := h.alloc h.size o
theorem below_st {w w' : World} {b i : Nat} {v : Value} (hp : w.heap.size ≤ b) (h : Below w.heap.size w w') : Below w.heap.size w (w'.setCell ⟨b, i, none⟩ v) := h.setCell hp v
theorem below_tr {w w' w'' : World} (h : Below w.heap.size w w') (b : Below w'.heap.size w' w'') : Below w.heap.size w w'' := h.trans (b.mono h.size)
theorem bx_new {w : World} {b : Nat} {cs : Array Value} {t : TypeId} (h : b = w.heap.size) : Bx (w.alloc (.cells cs t)) b cs t := by subst h; exact Bx.new w cs t
theorem bx_al {w : World} {b : Nat} {cs : Array Value} {t : TypeId} {o : Obj} (h : Bx w b cs t) : Bx (w.alloc o) b cs t := h.alloc o
theorem bx_tr {w w' : World} {b : Nat} {cs : Array Value} {t : TypeId} (h : Bx w b cs t) (hb : Below w.heap.size w w') : Bx w' b cs t := h.below hb (Nat.le_refl _)
theorem bx_dr {w : World} {b : Nat} {cs : Array Value} {t : TypeId} (h : Bx w b cs t) : Bx w.drew b cs t := h
theorem bx_ot {w : World} {b b' i : Nat} {cs : Array Value} {t : TypeId} {v : Value} (hne : b ≠ b') (h : Bx w b cs t) : Bx (w.setCell ⟨b', i, none⟩ v) b cs t := h.other v hne
theorem bx_set2 {w : World} {b : Nat} {z0 z1 v0 v1 : Value} {t : TypeId} (h : Bx w b #[z0, z1] t) : Bx ((w.setCell ⟨b, 0, none⟩ v0).setCell ⟨b, 1, none⟩ v1) b #[v0, v1] t := (h.set 0 v0).set 1 v1
theorem bx_set4 {w : World} {b : Nat} {z0 z1 z2 z3 v0 v1 v2 v3 : Value} {t : TypeId} (h : Bx w b #[z0, z1, z2, z3] t) : Bx ((((w.setCell ⟨b, 0, none⟩ v0).setCell ⟨b, 1, none⟩ v1).setCell ⟨b, 2, none⟩ v2).setCell ⟨b, 3, none⟩ v3) b #[v0, v1, v2, v3] t := (((h.set 0 v0).set 1 v1).set 2 v2).set 3 v3
theorem bx_set6 {w : World} {b : Nat} {z v0 v1 v2 v3 v4 v5 : Value} {t : TypeId} (h : Bx w b #[z, z, z, z, z, z] t) : Bx ((((((w.setCell ⟨b, 0, none⟩ v0).setCell ⟨b, 1, none⟩ v1).setCell ⟨b, 2, none⟩ v2).setCell ⟨b, 3, none⟩ v3).setCell ⟨b, 4, none⟩ v4).setCell ⟨b, 5, none⟩ v5) b #[v0, v1, v2, v3, v4, v5] t :=
  (((((h.set 0 v0).set 1 v1).set 2 v2).set 3 v3).set 4 v4).set 5 v5
theorem sl_set6 {w : World} {A : Option Addr} {n c b : Nat} {f : Nat → Int} {t : TypeId} {A0 A1 A2 A3 A4 A5 : Option Addr} {n0 n1 n2 n3 n4 n5 c0 c1 c2 c3 c4 c5 : Nat} (hb : Bx w b #[.slice none 0 0, .slice none 0 0, .slice none 0 0, .slice none 0 0, .slice none 0 0, .slice none 0 0] t) (h : Sl w .u64 A n c f) :
    Sl ((((((w.setCell ⟨b, 0, none⟩ (.slice A0 n0 c0)).setCell ⟨b, 1, none⟩ (.slice A1 n1 c1)).setCell ⟨b, 2, none⟩ (.slice A2 n2 c2)).setCell ⟨b, 3, none⟩ (.slice A3 n3 c3)).setCell ⟨b, 4, none⟩ (.slice A4 n4 c4)).setCell ⟨b, 5, none⟩ (.slice A5 n5 c5)) .u64 A n c f :=
  (((((h.set hb (by simp)).set (hb.set 0 _) (by simp)).set ((hb.set 0 _).set 1 _) (by simp)).set (((hb.set 0 _).set 1 _).set 2 _) (by simp)).set ((((hb.set 0 _).set 1 _).set 2 _).set 3 _) (by simp)).set (((((hb.set 0 _).set 1 _).set 2 _).set 3 _).set 4 _) (by simp)
theorem sl_al {w : World} {k : IntKind} {A : Option Addr} {n c : Nat} {f : Nat → Int} {o : Obj} (h : Sl w k A n c f) : Sl (w.alloc o) k A n c f := h.alloc o
theorem sl_tr {w w' : World} {k : IntKind} {A : Option Addr} {n c : Nat} {f : Nat → Int} (h : Sl w k A n c f) (hb : Below w.heap.size w w') : Sl w' k A n c f := h.below hb (Nat.le_refl _)
theorem sl_setV {w : World} {A : Option Addr} {n c b : Nat} {f : Nat → Int} {t : TypeId} {A2 : Option Addr} {n2 c2 : Nat} {v1 : Value} (hb : Bx w b #[.slice none 0 0, .slice none 0 0] t) (h : Sl w .u64 A n c f) : Sl ((w.setCell ⟨b, 0, none⟩ (.slice A2 n2 c2)).setCell ⟨b, 1, none⟩ v1) .u64 A n c f :=
  (h.set hb (by simp)).set (hb.set 0 _) (by simp)
theorem below_dr {w w' : World} (h : Below w.heap.size w w') : Below w.heap.size w w'.drew := h.drew
theorem below_rf {w : World} : Below w.heap.size w w := Below.refl _ _
theorem sl_dr {w : World} {k : IntKind} {A : Option Addr} {n c : Nat} {f : Nat → Int} (h : Sl w k A n c f) : Sl w.drew k A n c f := h.drew
theorem fwd_sl {w w' : World} {k : IntKind} {A : Option Addr} {n c : Nat} {f : Nat → Int} (h : Sl w k A n c f) (hb : Below w.heap.size w w') : Sl w' k A n c f := h.below hb (Nat.le_refl _)
theorem have_then {T Q : Prop} (h : T) (k : T → Q) : Q := k h
theorem below_drew0 (w : World) : Below w.heap.size w w.drew := (Below.refl _ _).drew
end Go.Proofs.YtjdiilkljgljkaaGreatDoor
namespace Go.Proofs.YtjdiilkljgljkaaGreatDoor
set_option linter.unusedVariables false
set_option linter.unusedSimpArgs false
open Go.RowKit Wd

/-- byte i of a word -/
def byt (x : Int) (i : Nat) : Int := x / 256 ^ i % 256
def bytL (x : Int) (k : Nat) : List Int := (List.range k).map (byt x)
def le8 (x : Int) : List Int := bytL x 8
theorem bytL_succ (x : Int) (k : Nat) : bytL x (k + 1) = bytL x k ++ [byt x k] := by simp [bytL, List.range_succ]
theorem bytL_len (x : Int) (k : Nat) : (bytL x k).length = k := by simp [bytL]
theorem le8_len (x : Int) : (le8 x).length = 8 := bytL_len x 8
/-- the bytes of a row of points -/
def ptB (x y : Int) : List Int := le8 (lo x) ++ le8 (lo y)
theorem ptB_len (x y : Int) : (ptB x y).length = 16 := by simp [ptB, le8_len]
def ptsB (f g : Nat → Int) : Nat → List Int
  | 0 => []
  | k + 1 => ptsB f g k ++ ptB (f k) (g k)
theorem ptsB_len (f g : Nat → Int) : ∀ k, (ptsB f g k).length = 16 * k
  | 0 => rfl
  | k + 1 => by rw [ptsB, List.length_append, ptsB_len f g k, ptB_len]; omega
def bCells (l : List Int) : List Value := l.map (Value.int .u8)
theorem bCells_one (l : List Int) : ∀ u ∈ bCells l, u.oneCell' = true := by
  intro u hu; simp only [bCells, List.mem_map] at hu; obtain ⟨x, _, rfl⟩ := hu; rfl
theorem bCells_app (l k : List Int) : bCells (l ++ k) = bCells l ++ bCells k := by simp [bCells]
/-- a row of the call's own, from block base on, that holds these bytes -/
def OwB (w : World) (base : Nat) (v : Value) (l : List Int) : Prop := w.ownsRow base 5 1 v l.length (bCells l)
theorem OwB.snoc {w : World} {base : Nat} {v : Value} {l : List Int} {n : Nat} {y : Int} (h : w.ownsRow base 5 1 v n (bCells l ++ [.int .u8 y])) (hn : n = l.length + 1) : OwB w base v (l ++ [y]) := by
  subst hn; unfold OwB; rw [bCells_app]; simpa [bCells] using h
theorem OwB.alloc {w : World} {base : Nat} {v : Value} {l : List Int} (h : OwB w base v l) (o : Obj) : OwB (w.alloc o) base v l := World.ownsRow.alloc h o
theorem OwB.mono {w : World} {base base' : Nat} {v : Value} {l : List Int} (h : OwB w base v l) (hb : base' ≤ base) : OwB w base' v l := by
  refine ⟨h.1, ?_⟩
  rcases h.2 with h | ⟨g, c, cur, e1, e2, e3⟩
  · exact .inl h
  · exact .inr ⟨g, c, cur, e1, Nat.le_trans hb e2, e3⟩
theorem OwB.below {w w' : World} {base B : Nat} {v : Value} {l : List Int} (h : OwB w base v l) (hb : Below B w w') (hB : w.heap.size ≤ B) : OwB w' base v l := by
  refine ⟨h.1, ?_⟩
  rcases h.2 with h | ⟨g, c, cur, e1, e2, e3, e4⟩
  · exact .inl h
  · exact .inr ⟨g, c, cur, e1, e2, (hb.block g (by have := (Array.getElem?_eq_some_iff.1 e3).1; omega)).trans e3, e4⟩
theorem OwB.drew {w : World} {base : Nat} {v : Value} {l : List Int} (h : OwB w base v l) : OwB w.drew base v l := h.below (Below.refl w.heap.size w).drew (Nat.le_refl _)
theorem OwB.slice {w : World} {base : Nat} {v : Value} {l : List Int} (h : OwB w base v l) : ∃ A c, v = .slice A l.length c := by
  rcases h.2 with ⟨rfl, h0⟩ | ⟨g, c, cur, rfl, _⟩
  · rw [h0]; exact ⟨none, 0, rfl⟩
  · exact ⟨_, _, rfl⟩

/-- the slice '.slice A l.length c' holds these bytes -/
structure By (w : World) (A : Option Addr) (c : Nat) (l : List Int) : Prop where
  cap : l.length ≤ c
  max : c ≤ maxLen
  at_ : 0 < l.length → ∃ b off, A = some ⟨b, off, none⟩ ∧ b < w.heap.size ∧ ∀ i x, l[i]? = some x → w.cell? ⟨b, off + i, none⟩ = some (.int .u8 x)
theorem By.below {w w' : World} {B : Nat} {A : Option Addr} {c : Nat} {l : List Int} (h : By w A c l) (hb : Below B w w') (hB : w.heap.size ≤ B) : By w' A c l :=
  ⟨h.cap, h.max, fun hn => by
    obtain ⟨b, off, e, hlt, hc⟩ := h.at_ hn
    exact ⟨b, off, e, Nat.lt_of_lt_of_le hlt hb.size, fun i x hi => (hb.cell (p := ⟨b, off + i, none⟩) (by show b < B; omega)).trans (hc i x hi)⟩⟩
theorem By.alloc {w : World} {A : Option Addr} {c : Nat} {l : List Int} (h : By w A c l) (o : Obj) : By (w.alloc o) A c l :=
  h.below ((Below.refl w.heap.size w).alloc (Nat.le_refl _) o) (Nat.le_refl _)
theorem By.drew {w : World} {A : Option Addr} {c : Nat} {l : List Int} (h : By w A c l) : By w.drew A c l := h.below (Below.refl w.heap.size w).drew (Nat.le_refl _)
theorem OwB.by {w : World} {base : Nat} {v : Value} {l : List Int} (h : OwB w base v l) : ∃ A c, v = .slice A l.length c ∧ By w A c l := by
  rcases h.2 with ⟨rfl, h0⟩ | ⟨g, c, cur, rfl, h1, h2, h3, h4, h5, h6⟩
  · rw [h0]; exact ⟨none, 0, rfl, by omega, Nat.zero_le _, fun h => by omega⟩
  · refine ⟨_, c, rfl, h3, h4, fun _ => ⟨g, 0, rfl, (Array.getElem?_eq_some_iff.1 h2).1, fun i x hi => ?_⟩⟩
    have hlt : i < l.length := (List.getElem?_eq_some_iff.1 hi).1
    have : (bCells l)[i]? = some (.int .u8 x) := by simp [bCells, hi]
    rw [Nat.zero_add, World.ownsRow.cellAt h i (by omega), this]
/-- below block base the world is as it was; what is no row of bytes, and is not block ex, is as it was -/
structure Fr (base : Nat) (ex : Option Nat) (w w' : World) : Prop where
  below : Below base w w'
  keep : ∀ b cs t, t ≠ 5 → some b ≠ ex → Bx w b cs t → Bx w' b cs t
theorem Fr.refl (base : Nat) (ex : Option Nat) (w : World) : Fr base ex w w := ⟨Below.refl _ _, fun _ _ _ _ _ h => h⟩
theorem Fr.trans {base : Nat} {ex : Option Nat} {a b c : World} (h : Fr base ex a b) (k : Fr base ex b c) : Fr base ex a c :=
  ⟨h.below.trans k.below, fun b cs t h1 h2 h3 => k.keep b cs t h1 h2 (h.keep b cs t h1 h2 h3)⟩
theorem Fr.drew {base : Nat} {ex : Option Nat} {a w : World} (h : Fr base ex a w) : Fr base ex a w.drew := ⟨h.below.drew, fun b cs t h1 h2 h3 => h.keep b cs t h1 h2 h3⟩
theorem Fr.of_below {base : Nat} {ex : Option Nat} {a b : World} (h : Below a.heap.size a b) (hb : base ≤ a.heap.size) : Fr base ex a b :=
  ⟨h.mono hb, fun _ _ _ _ _ h3 => h3.below h (Nat.le_refl _)⟩
theorem Fr.alloc {base : Nat} {ex : Option Nat} {a w : World} (h : Fr base ex a w) (hb : base ≤ w.heap.size) (o : Obj) : Fr base ex a (w.alloc o) :=
  h.trans (Fr.of_below ((Below.refl w.heap.size w).alloc (Nat.le_refl _) o) hb)
theorem Fr.some {base k : Nat} {a b : World} (h : Fr base none a b) : Fr base (Option.some k) a b := ⟨h.below, fun b cs t h1 _ h3 => h.keep b cs t h1 (by simp) h3⟩
theorem Fr.mono {base base' : Nat} {ex : Option Nat} {a b : World} (h : Fr base ex a b) (hb : base' ≤ base) : Fr base' ex a b := ⟨h.below.mono hb, h.keep⟩
theorem Fr.size {base : Nat} {ex : Option Nat} {a b : World} (h : Fr base ex a b) : a.heap.size ≤ b.heap.size := h.below.size
theorem row_block {w : World} {base : Nat} {e : TypeId} {k n : Nat} {v : Value} {xs : List Value} (h : w.ownsRow base e k v n xs) {g : Nat} (hg : v.ownBlock = Option.some g) : base ≤ g ∧ ∃ cur, Bx w g cur e := by
  rcases h.2 with ⟨rfl, _⟩ | ⟨g', cap, cur, rfl, h1, h2, _⟩
  · simp [Value.ownBlock] at hg
  · obtain rfl : g' = g := by simpa [Value.ownBlock] using hg
    exact ⟨h1, cur, h2⟩
theorem Fr.grown {base n : Nat} {ex : Option Nat} {a w w' : World} {v : Value} {xs : List Value} (h : Fr base ex a w) (hg : w.grownBy w' v.ownBlock) (ho : w.ownsRow base 5 1 v n xs) (hb : base ≤ w.heap.size) : Fr base ex a w' :=
  ⟨h.below.grown hg hb (fun k e => (row_block ho e).1), fun b cs t h1 h2 h3 => by
    have h4 := h.keep b cs t h1 h2 h3
    refine (hg.block b h4.lt fun e => ?_).trans h4
    obtain ⟨_, cur, h5⟩ := row_block ho e.symm
    have := (show w.heap[b]? = _ from h4).symm.trans h5
    simp at this
    exact h1 this.2⟩
theorem Fr.setEx {base k i : Nat} {a w : World} {v : Value} (h : Fr base (Option.some k) a w) (hk : base ≤ k) : Fr base (Option.some k) a (w.setCell ⟨k, i, none⟩ v) :=
  ⟨h.below.setCell (p := ⟨k, i, none⟩) hk v, fun b cs t h1 h2 h3 => (h.keep b cs t h1 h2 h3).other v (by simpa using h2)⟩
theorem OwB.setOther {w : World} {base b i : Nat} {v x : Value} {l : List Int} {cs : Array Value} {t : TypeId} (h : OwB w base v l) (hb : Bx w b cs t) (ht : t ≠ 5) : OwB (w.setCell ⟨b, i, none⟩ x) base v l := by
  refine ⟨h.1, ?_⟩
  rcases h.2 with h | ⟨g, c, cur, e1, e2, e3, e4⟩
  · exact .inl h
  · refine .inr ⟨g, c, cur, e1, e2, (Bx.other e3 _ fun e => ?_), e4⟩
    obtain rfl : g = b := e
    have := (show w.heap[g]? = _ from hb).symm.trans e3
    simp at this
    exact ht this.2
theorem bx_grownB {w w' : World} {base n b : Nat} {v : Value} {xs : List Value} {cs : Array Value} {t : TypeId} (h : Bx w b cs t) (ht : t ≠ 5) (hg : w.grownBy w' v.ownBlock) (ho : w.ownsRow base 5 1 v n xs) : Bx w' b cs t := by
  refine (hg.block b h.lt fun e => ?_).trans h
  obtain ⟨_, cur, h5⟩ := row_block ho e.symm
  have := (show w.heap[b]? = _ from h).symm.trans h5
  simp at this
  exact ht this.2
theorem infoB : (Tryz.prog.info? 5).map (fun i => (i.zero, i.size, i.bytes)) = some (some (.int .u8 0), 1, 1) := by kernel_rfl
/-- one cell, just made -/
theorem cell_new1 (w : World) (v : Value) (t : TypeId) : ∀ j u, [v][j]? = some u → (w.alloc (.cells #[v] t)).cell? ((⟨w.heap.size, 0, none⟩ : Addr).add j) = some u := cells_one_new w v t
end Go.Proofs.YtjdiilkljgljkaaGreatDoor
namespace Go.Proofs.YtjdiilkljgljkaaGreatDoor
set_option linter.unusedVariables false
set_option linter.unusedSimpArgs false
namespace Wd

/-- 2^(64 i) -/
def S (i : Nat) : Int := 18446744073709551616 ^ i
/-- what is above the first i limbs -/
def qt (x : Int) (i : Nat) : Int := x / S i
/-- limb i of x -/
def lmb (x : Int) (i : Nat) : Int := qt x i % 18446744073709551616
/-- x fits into n limbs -/
def Fit (n : Nat) (x : Int) : Prop := -S n ≤ 2 * x ∧ 2 * x < S n

theorem S_zero : S 0 = 1 := rfl
theorem S_succ (i : Nat) : S (i + 1) = S i * 18446744073709551616 := Int.pow_succ _ _
theorem S_pos (i : Nat) : 0 < S i := by
  induction i with
  | zero => rw [S_zero]; omega
  | succ n ih => rw [S_succ]; omega
theorem S_add (i j : Nat) : S (i + j) = S i * S j := Int.pow_add _ _ _
theorem S_le {i j : Nat} (h : i ≤ j) : S i ≤ S j := by
  induction j with
  | zero => rw [show i = 0 from by omega]; exact Int.le_refl _
  | succ n ih =>
    by_cases hi : i ≤ n
    · have := ih hi; have := S_pos n; rw [S_succ]; omega
    · rw [show i = n + 1 from by omega]; exact Int.le_refl _
theorem qt_zero (x : Int) : qt x 0 = x := by unfold qt; rw [S_zero, Int.ediv_one]
theorem qt_succ (x : Int) (i : Nat) : qt x (i + 1) = qt x i / 18446744073709551616 := by
  unfold qt; rw [S_succ, Int.ediv_ediv_of_nonneg (Int.le_of_lt (S_pos i))]
theorem qt_add_mul (x t : Int) (i : Nat) : qt (x + t * S i) i = qt x i + t := by
  unfold qt; exact Int.add_mul_ediv_right x t (Int.ne_of_gt (S_pos i))
theorem qt_add (x : Int) (i j : Nat) : qt x (i + j) = qt (qt x i) j := by
  unfold qt; rw [S_add, Int.ediv_ediv_of_nonneg (Int.le_of_lt (S_pos i))]
theorem isW_lmb (x : Int) (i : Nat) : IsW (lmb x i) := by unfold IsW lmb; omega
theorem lmb_zero (i : Nat) : lmb 0 i = 0 := by simp [lmb, qt]
theorem lmb_cong (x t : Int) {n i : Nat} (h : i < n) : lmb (x + t * S n) i = lmb x i := by
  obtain ⟨k, rfl⟩ : ∃ k, n = i + (k + 1) := ⟨n - i - 1, by omega⟩
  have e : t * S (i + (k + 1)) = (t * S k * 18446744073709551616) * S i := by
    rw [S_add, S_succ, Int.mul_comm (S i), ← Int.mul_assoc, ← Int.mul_assoc]
  unfold lmb
  rw [e, qt_add_mul]
  omega
theorem fit_qt {n : Nat} {x : Int} (h : Fit n x) {i : Nat} (hi : n ≤ i) : qt x i = if x < 0 then -1 else 0 := by
  have h1 := S_pos n
  have h2 := S_le hi
  have h3 := S_pos i
  unfold Fit at h
  unfold qt
  split
  · exact (Int.ediv_eq_iff_of_pos h3).2 ⟨by omega, by omega⟩
  · exact Int.ediv_eq_zero_of_lt (by omega) (by omega)
theorem lmb_fill {n : Nat} {x : Int} (h : Fit n x) {i : Nat} (hi : n ≤ i) : lmb x i = msk (decide (x < 0)) := by
  unfold lmb msk
  rw [fit_qt h hi]
  by_cases h0 : x < 0 <;> simp [h0]
theorem fit_top {n : Nat} {x : Int} (h : Fit (n + 1) x) : -9223372036854775808 ≤ qt x n ∧ qt x n < 9223372036854775808 := by
  have h1 := S_pos n
  unfold Fit at h
  rw [S_succ] at h
  unfold qt
  constructor
  · exact Int.le_ediv_of_mul_le h1 (by omega)
  · exact Int.ediv_lt_of_lt_mul h1 (by omega)
theorem qt_neg {x : Int} {n : Nat} : qt x n < 0 ↔ x < 0 := by
  have h1 := S_pos n
  unfold qt
  constructor
  · intro h
    rcases (by omega : x < 0 ∨ 0 ≤ x) with h0 | h0
    · exact h0
    · have := Int.ediv_nonneg h0 (Int.le_of_lt h1); omega
  · intro h; exact Int.ediv_neg_of_neg_of_pos h h1
theorem top_neg {n : Nat} {x : Int} (h : Fit (n + 1) x) : 9223372036854775808 ≤ lmb x n ↔ x < 0 := by
  have h1 := fit_top h
  have h2 := qt_neg (x := x) (n := n)
  unfold lmb
  omega

/-! sums and differences -/
def car (x y : Int) (i : Nat) : Int := qt (x + y) i - qt x i - qt y i
theorem car_zero (x y : Int) : car x y 0 = 0 := by unfold car; rw [qt_zero, qt_zero, qt_zero]; omega
theorem car_le (x y : Int) (i : Nat) : 0 ≤ car x y i ∧ car x y i ≤ 1 := by
  induction i with
  | zero => rw [car_zero]; omega
  | succ n ih => unfold car at *; rw [qt_succ, qt_succ, qt_succ]; omega
theorem add_step (x y : Int) (i : Nat) : lo (lmb x i + lmb y i + car x y i % 2) = lmb (x + y) i ∧ (lmb x i + lmb y i + car x y i % 2) / 18446744073709551616 = car x y (i + 1) := by
  have h := car_le x y i
  have e : car x y (i + 1) = qt (x + y) i / 18446744073709551616 - qt x i / 18446744073709551616 - qt y i / 18446744073709551616 := by unfold car; rw [qt_succ, qt_succ, qt_succ]
  rw [e]
  unfold car at h
  unfold lo lmb car
  omega
def brw (x y : Int) (i : Nat) : Int := qt x i - qt y i - qt (x - y) i
theorem brw_zero (x y : Int) : brw x y 0 = 0 := by unfold brw; rw [qt_zero, qt_zero, qt_zero]; omega
theorem brw_le (x y : Int) (i : Nat) : 0 ≤ brw x y i ∧ brw x y i ≤ 1 := by
  induction i with
  | zero => rw [brw_zero]; omega
  | succ n ih => unfold brw at *; rw [qt_succ, qt_succ, qt_succ]; omega
theorem sub_step (x y : Int) (i : Nat) : lo (lmb x i - lmb y i - brw x y i % 2) = lmb (x - y) i ∧ bor (lmb x i) (lmb y i) (brw x y i % 2) = brw x y (i + 1) := by
  have h := brw_le x y i
  have e : brw x y (i + 1) = qt x i / 18446744073709551616 - qt y i / 18446744073709551616 - qt (x - y) i / 18446744073709551616 := by unfold brw; rw [qt_succ, qt_succ, qt_succ]
  rw [e]
  unfold brw at h
  unfold lo lmb bor brw
  refine ⟨by omega, ?_⟩
  split <;> omega
theorem isW_car (x y : Int) (i : Nat) : IsW (car x y i) := by have := car_le x y i; unfold IsW; omega
theorem isW_brw (x y : Int) (i : Nat) : IsW (brw x y i) := by have := brw_le x y i; unfold IsW; omega

/-! products -/
/-- x y, of x only the first i limbs -/
def prt (x y : Int) (i : Nat) : Int := (x - qt x i * S i) * y
theorem prt_zero (x y : Int) : prt x y 0 = 0 := by unfold prt; rw [qt_zero, S_zero, Int.mul_one, Int.sub_self, Int.zero_mul]
theorem prt_succ (x y : Int) (i : Nat) : prt x y (i + 1) = prt x y i + lmb x i * y * S i := by
  unfold prt lmb
  rw [qt_succ, S_succ]
  have e : qt x i = qt x i / 18446744073709551616 * 18446744073709551616 + qt x i % 18446744073709551616 := by omega
  generalize qt x i / 18446744073709551616 = u at *
  generalize qt x i % 18446744073709551616 = v at *
  rw [e, Int.sub_mul, Int.sub_mul, Int.add_mul, Int.add_mul]
  have e1 : u * (S i * 18446744073709551616) = u * 18446744073709551616 * S i := by rw [Int.mul_assoc, Int.mul_comm (S i), ← Int.mul_assoc]
  have e2 : v * y * S i = v * S i * y := by rw [Int.mul_assoc, Int.mul_comm y, ← Int.mul_assoc]
  rw [e1, e2]
  omega
theorem prt_last (x y : Int) {n k : Nat} (h : k < n) : lmb (prt x y n) k = lmb (x * y) k := by
  have e : prt x y n = x * y + (-(qt x n * y)) * S n := by
    unfold prt; rw [Int.sub_mul, Int.neg_mul, Int.mul_assoc (qt x n), Int.mul_comm (S n), ← Int.mul_assoc]; omega
  rw [e, lmb_cong _ _ h]
/-- the carry within row i, at column j -/
def kar (x y : Int) (i j : Nat) : Int := qt (prt x y (i + 1)) (i + j) - qt (prt x y i) (i + j) - lmb x i * qt y j
theorem kar_zero (x y : Int) (i : Nat) : kar x y i 0 = 0 := by
  unfold kar; rw [prt_succ, Nat.add_zero, qt_add_mul, qt_zero]; omega
theorem mul_core {a p y k Q : Int} (ha : IsW a) (hk : IsW k) (hQ : Q - p - a * y = k) :
    lo (a * (y % 18446744073709551616) + p % 18446744073709551616 + k) = Q % 18446744073709551616 ∧
    hi (a * (y % 18446744073709551616) + p % 18446744073709551616 + k) = Q / 18446744073709551616 - p / 18446744073709551616 - a * (y / 18446744073709551616) ∧
    IsW (Q / 18446744073709551616 - p / 18446744073709551616 - a * (y / 18446744073709551616)) := by
  have e : y = y / 18446744073709551616 * 18446744073709551616 + y % 18446744073709551616 := by omega
  have hy : IsW (y % 18446744073709551616) := by unfold IsW; omega
  have hp := isW_lt_mul ha hy
  have e2 : a * y = a * (y / 18446744073709551616) * 18446744073709551616 + a * (y % 18446744073709551616) := by
    conv => lhs; rw [e]
    rw [Int.mul_add, Int.mul_assoc]
  rw [e2] at hQ
  generalize a * (y / 18446744073709551616) = u at *
  generalize a * (y % 18446744073709551616) = v at *
  unfold IsW lo hi at *
  omega
theorem kar_step (x y : Int) (i j : Nat) (hk : IsW (kar x y i j)) :
    lo (lmb x i * lmb y j + lmb (prt x y i) (i + j) + kar x y i j) = lmb (prt x y (i + 1)) (i + j) ∧
    hi (lmb x i * lmb y j + lmb (prt x y i) (i + j) + kar x y i j) = kar x y i (j + 1) ∧ IsW (kar x y i (j + 1)) := by
  have h := mul_core (a := lmb x i) (p := qt (prt x y i) (i + j)) (y := qt y j) (k := kar x y i j) (Q := qt (prt x y (i + 1)) (i + j)) (isW_lmb x i) hk rfl
  have e : kar x y i (j + 1) = qt (prt x y (i + 1)) (i + j) / 18446744073709551616 - qt (prt x y i) (i + j) / 18446744073709551616 - lmb x i * (qt y j / 18446744073709551616) := by
    unfold kar; rw [← Nat.add_assoc, qt_succ, qt_succ, qt_succ]
  rw [e]
  exact h
theorem isW_kar (x y : Int) (i j : Nat) : IsW (kar x y i j) := by
  induction j with
  | zero => rw [kar_zero]; unfold IsW; omega
  | succ n ih => exact (kar_step x y i n ih).2.2
/-- a row that is shorter than x: limbs below i are final -/
theorem prt_low (x y : Int) {i k : Nat} (h : k < i) : lmb (prt x y (i + 1)) k = lmb (prt x y i) k := by
  rw [prt_succ, lmb_cong _ _ h]

/-! an integer is known by its limbs -/
theorem qt_eq_of_lmb {x y : Int} : ∀ {n : Nat}, (∀ i, i < n → lmb x i = lmb y i) → ∃ t, x - y = t * S n
  | 0, _ => ⟨x - y, by rw [S_zero]; omega⟩
  | n + 1, h => by
    obtain ⟨t, ht⟩ := qt_eq_of_lmb (n := n) (fun i hi => h i (by omega))
    have h1 := h n (by omega)
    have e : x = y + t * S n := by omega
    rw [e] at h1
    unfold lmb at h1
    rw [qt_add_mul] at h1
    refine ⟨t / 18446744073709551616, ?_⟩
    rw [S_succ, Int.mul_comm (S n), ← Int.mul_assoc, show t / 18446744073709551616 * 18446744073709551616 = t from by omega]
    exact ht
theorem eq_of_lmb {x y : Int} {n : Nat} (hx : Fit n x) (hy : Fit n y) (h : ∀ i, i < n → lmb x i = lmb y i) : x = y := by
  obtain ⟨t, ht⟩ := qt_eq_of_lmb h
  have hS := S_pos n
  unfold Fit at hx hy
  rcases (by omega : t = 0 ∨ 1 ≤ t ∨ t ≤ -1) with h0 | h0 | h0
  · rw [h0] at ht; omega
  · have : 1 * S n ≤ t * S n := Int.mul_le_mul_of_nonneg_right h0 (Int.le_of_lt hS)
    omega
  · have : t * S n ≤ -1 * S n := Int.mul_le_mul_of_nonneg_right h0 (Int.le_of_lt hS)
    omega
theorem zero_of_lmb {x : Int} {n : Nat} (hx : Fit n x) (h : ∀ i, i < n → lmb x i = 0) : x = 0 :=
  eq_of_lmb hx (by have := S_pos n; unfold Fit; omega) (fun i hi => by rw [h i hi, lmb_zero])
/-- every row of words is the limbs of an integer that fits -/
theorem lmb_exists_nat (f : Nat → Int) : ∀ n, (∀ i, i < n → IsW (f i)) → ∃ x, 0 ≤ x ∧ x < S n ∧ ∀ i, i < n → lmb x i = f i
  | 0, _ => ⟨0, by omega, by rw [S_zero]; omega, fun i hi => absurd hi (by omega)⟩
  | n + 1, h => by
    obtain ⟨x, h0, h1, h2⟩ := lmb_exists_nat f n (fun i hi => h i (by omega))
    have hn := h n (by omega)
    have hS := S_pos n
    unfold IsW at hn
    have hm1 := Int.mul_nonneg hn.1 (Int.le_of_lt hS)
    have hm2 : f n * S n ≤ 18446744073709551615 * S n := Int.mul_le_mul_of_nonneg_right (by omega) (Int.le_of_lt hS)
    refine ⟨x + f n * S n, by omega, by rw [S_succ]; omega, fun i hi => ?_⟩
    by_cases hin : i < n
    · rw [lmb_cong _ _ hin, h2 i hin]
    · obtain rfl : i = n := by omega
      unfold lmb
      rw [qt_add_mul]
      have : qt x i = 0 := Int.ediv_eq_zero_of_lt h0 h1
      rw [this]; omega
theorem lmb_exists (f : Nat → Int) (n : Nat) (h : ∀ i, i < n → IsW (f i)) : ∃ x, Fit n x ∧ ∀ i, i < n → lmb x i = f i := by
  obtain ⟨x, h0, h1, h2⟩ := lmb_exists_nat f n h
  have hS := S_pos n
  rcases (by omega : 2 * x < S n ∨ S n ≤ 2 * x) with hx | hx
  · exact ⟨x, ⟨by omega, hx⟩, h2⟩
  · refine ⟨x + -1 * S n, ⟨by omega, by omega⟩, fun i hi => by rw [lmb_cong _ _ hi, h2 i hi]⟩
theorem fit_mono {n m : Nat} {x : Int} (h : Fit n x) (hm : n ≤ m) : Fit m x := by
  have := S_le hm; unfold Fit at *; omega
theorem fit_I {x : Int} (h : IsI x) {n : Nat} (hn : 1 ≤ n) : Fit n x := by
  refine fit_mono (n := 1) ?_ hn
  unfold IsI at h; unfold Fit; rw [show S 1 = 18446744073709551616 from rfl]; omega
end Wd
/-- the sign, as a word that the walk leaves alone -/
def sg (x : Int) : Int := x.sign
end Go.Proofs.YtjdiilkljgljkaaGreatDoor
namespace Go.Proofs.YtjdiilkljgljkaaGreatDoor
set_option linter.unusedVariables false
namespace Op
open Go.ChangeShapes Go.WideShapes Go.ChangeAt Go.RowKit Wd

variable {H : Type} {enc : TypeId × Value → H} {P : Program} {w : World} {base : Nat} {spare : Nat → Bool} {held : Bool}

theorem spotless {w : World} {b o : Nat} {sp : Option Nat} {v : Value} (h : w.cell? ⟨b, o, sp⟩ = some v) : sp = none ∧ b < w.heap.size := by
  unfold World.cell? at h
  cases hh : w.heap[b]? with
  | none => simp [hh] at h
  | some o =>
    have hlt : b < w.heap.size := by
      rcases Nat.lt_or_ge b w.heap.size with h1 | h1
      · exact h1
      · rw [Array.getElem?_eq_none h1] at hh; cases hh
    refine ⟨?_, hlt⟩
    cases sp with
    | none => rfl
    | some s => cases o <;> simp [hh] at h

/-- a slice of words holds an integer's limbs -/
theorem open_words {t e : TypeId} {A : Option Addr} {n c : Nat} {d : DataW H} {p : List MemPlace} (ht : P.underlying t = some (.slice e)) (he : P.underlying e = some (.int .u64)) (hc : P.cellsOf e = 1)
    (h : DataW.Trod enc P w base spare held t (.slice A n c) d p) : ∃ x : Int, Wd.Fit n x ∧ Sl w .u64 A n c (Wd.lmb x) := by
  obtain ⟨fuel, hf⟩ := h
  rcases Go.Deep.open_slice1 ht hc hf with ⟨hcs, _⟩ | ⟨a, len, cap, m, n', V, D, Pl, hcs, _, hl, hm, hmm, _, hx⟩
  · have e0 : Value.slice A n c = .slice none 0 0 := by simpa [Value.cells] using hcs
    injection e0 with e1 e2 e3
    subst e1 e2 e3
    exact ⟨0, by unfold Wd.Fit; rw [Wd.S_zero]; omega, Sl.none_⟩
  · have e0 : Value.slice A n c = .slice (some a) len cap := by simpa [Value.cells] using hcs
    injection e0 with e1 e2 e3
    subst e1 e2 e3
    have hmn : n ≤ m := by rw [hmm]; split <;> omega
    have hV : ∀ i, i < n → ∃ y : Int, V i = .int .u64 y ∧ IsW y := fun i hi => by
      obtain ⟨y, e2, _, wy⟩ := DataW.trod_int he (hx i (by omega)).2
      simp at e2
      exact ⟨y, e2, isW_of_wf wy⟩
    obtain ⟨x, hfx, hxl⟩ := Wd.lmb_exists (fun i => match V i with | .int _ y => y | _ => 0) n (fun i hi => by
      obtain ⟨y, e2, wy⟩ := hV i hi
      simp only [e2]; exact wy)
    refine ⟨x, hfx, hl, hm, fun h0 => ?_⟩
    have hc0 := (hx 0 (by omega)).1
    obtain ⟨b, off, sp⟩ := a
    have h0' : w.cell? ⟨b, off, sp⟩ = some (V 0) := by simpa [Addr.add] using hc0
    obtain ⟨rfl, hlt⟩ := spotless h0'
    refine ⟨b, off, rfl, hlt, fun i hi => ?_⟩
    obtain ⟨y, e2, wy⟩ := hV i hi
    have h1 := (hx i (by omega)).1
    have h2 : w.cell? ⟨b, off + i, none⟩ = some (V i) := by
      by_cases hi0 : i = 0
      · subst hi0; exact h0'
      · simpa [Addr.add, hi0] using h1
    rw [h2, hxl i hi, e2]
end Op
end Go.Proofs.YtjdiilkljgljkaaGreatDoor
namespace Go.Proofs.YtjdiilkljgljkaaGreatDoor
set_option linter.unusedVariables false
namespace Op
open Go.ChangeShapes Go.WideShapes Go.ChangeAt Go.RowKit

variable {H : Type} {enc : TypeId × Value → H} {P : Program} {w : World} {base : Nat} {spare : Nat → Bool} {held : Bool}

theorem agg_of_len {v : Value} (h : 2 ≤ v.cells.toList.length) : ∃ cs : Array Value, v = .agg cs ∧ v.cells = cs := by
  cases v <;> simp [Value.cells] at h ⊢

theorem list2 {α : Type} {l : List α} (h : l.length = 2) : ∃ a b, l = [a, b] := by
  match l, h with
  | [a, b], _ => exact ⟨a, b, rfl⟩
theorem list3 {α : Type} {l : List α} (h : l.length = 3) : ∃ a b c, l = [a, b, c] := by
  match l, h with
  | [a, b, c], _ => exact ⟨a, b, c, rfl⟩
theorem list4 {α : Type} {l : List α} (h : l.length = 4) : ∃ a b c d, l = [a, b, c, d] := by
  match l, h with
  | [a, b, c, d], _ => exact ⟨a, b, c, d, rfl⟩
theorem list6 {α : Type} {l : List α} (h : l.length = 6) : ∃ a b c d e f, l = [a, b, c, d, e, f] := by
  match l, h with
  | [a, b, c, d, e, f], _ => exact ⟨a, b, c, d, e, f, rfl⟩

/-- the cells of an array whose elements have one cell each -/
theorem arr_at {t e : TypeId} {n fuel : Nat} {cs : List Value} {x : DataW H × List MemPlace} (ht : P.underlying t = some (.array n e)) (hc : P.cellsOf e = 1) (h : DataW.trod enc P w base spare held fuel t cs = some x) (hl : cs.length = n) :
    ∃ m, ∀ i, i < n → ∃ y u, cs[i]? = some u ∧ DataW.trod enc P w base spare held m e [u] = some y := by
  obtain ⟨xs, m, _, _, _, hlen, hg⟩ := DataW.trod_array ht h
  refine ⟨m, fun i hi => ?_⟩
  have h1 := hg i hi
  have hlt : i < cs.length := by omega
  rw [hc, Nat.mul_one, List.drop_eq_getElem_cons hlt] at h1
  simp only [List.take_succ_cons, List.take_zero] at h1
  have h2 : xs[i]? = some (xs[i]'(by omega)) := List.getElem?_eq_getElem (by omega)
  exact ⟨_, cs[i], List.getElem?_eq_getElem hlt, h1.trans h2⟩

/-- an array of two integers of one kind -/
theorem open_two {t e : TypeId} {k : IntKind} {v : Value} {d : DataW H} {p : List MemPlace} (ht : P.underlying t = some (.array 2 e)) (he : P.underlying e = some (.int k)) (hc : P.cellsOf e = 1) (hC : P.cellsOf t = 2)
    (h : DataW.Trod enc P w base spare held t v d p) : ∃ a b : Int, v = .agg #[.int k a, .int k b] ∧ (Lit.int k a).wf = true ∧ (Lit.int k b).wf = true := by
  obtain ⟨fuel, hf⟩ := h
  have hlen : v.cells.toList.length = 2 := by obtain ⟨xs, m, _, _, hl, _⟩ := DataW.trod_array ht hf; omega
  obtain ⟨m, hat⟩ := arr_at ht hc hf hlen
  obtain ⟨cs, rfl, hcs⟩ := agg_of_len (v := v) (by omega)
  rw [hcs] at hlen hat
  obtain ⟨l⟩ := cs
  obtain ⟨u0, u1, rfl⟩ := list2 hlen
  obtain ⟨y0, a0, ha0, hy0⟩ := hat 0 (by omega)
  obtain ⟨y1, a1, ha1, hy1⟩ := hat 1 (by omega)
  simp at ha0 ha1
  subst ha0 ha1
  obtain ⟨a, ea, _, wa⟩ := DataW.trod_int he hy0
  obtain ⟨b, eb, _, wb⟩ := DataW.trod_int he hy1
  simp at ea eb
  subst ea eb
  exact ⟨a, b, rfl, wa, wb⟩
end Op
end Go.Proofs.YtjdiilkljgljkaaGreatDoor
namespace Go.Proofs.YtjdiilkljgljkaaGreatDoor
set_option linter.unusedVariables false
namespace Op
open Go.ChangeShapes Go.WideShapes Go.ChangeAt Go.RowKit Wd

variable {H : Type} {enc : TypeId × Value → H} {P : Program} {w : World} {base : Nat} {spare : Nat → Bool} {held : Bool}

/-- a struct of two integers of one kind -/
theorem open_pt {t e : TypeId} {f0 f1 : Field} {k : IntKind} {v : Value} {d : DataW H} {p : List MemPlace} (hs : P.underlying t = some (.struct #[f0, f1])) (h0 : f0.type = e) (h1 : f1.type = e) (o0 : f0.offset = 0) (o1 : f1.offset = 1) (he : P.underlying e = some (.int k)) (hc : P.cellsOf e = 1) (hC : P.cellsOf t = 2)
    (h : DataW.Trod enc P w base spare held t v d p) : ∃ a b : Int, v = .agg #[.int k a, .int k b] ∧ (Lit.int k a).wf = true ∧ (Lit.int k b).wf = true := by
  obtain ⟨fuel, hf⟩ := h
  obtain ⟨y0, y1, n, hx, hl, q0, q1⟩ := trod_struct2 hs hf
  rw [hC] at hl
  obtain ⟨cs, rfl, hcs⟩ := agg_of_len (v := v) (by omega)
  rw [hcs] at hl q0 q1
  obtain ⟨l⟩ := cs
  obtain ⟨u0, u1, rfl⟩ := list2 hl
  rw [h0, o0, hc] at q0
  rw [h1, o1, hc] at q1
  obtain ⟨a, ea, _, wa⟩ := DataW.trod_int he q0
  obtain ⟨b, eb, _, wb⟩ := DataW.trod_int he q1
  simp at ea eb
  subst ea eb
  exact ⟨a, b, rfl, wa, wb⟩

/-- an array of structs of two integers: all its cells are integers -/
theorem pts_at {t s e : TypeId} {f0 f1 : Field} {k : IntKind} {n fuel : Nat} {cs : List Value} {x : DataW H × List MemPlace} (ht : P.underlying t = some (.array n s)) (hs : P.underlying s = some (.struct #[f0, f1])) (h0 : f0.type = e) (h1 : f1.type = e) (o0 : f0.offset = 0) (o1 : f1.offset = 1) (he : P.underlying e = some (.int k)) (hc : P.cellsOf e = 1) (hC : P.cellsOf s = 2)
    (h : DataW.trod enc P w base spare held fuel t cs = some x) (hl : cs.length = n * 2) :
    ∀ i, i < n → ∃ a b : Int, cs[i * 2]? = some (.int k a) ∧ cs[i * 2 + 1]? = some (.int k b) ∧ (Lit.int k a).wf = true ∧ (Lit.int k b).wf = true := by
  obtain ⟨xs, m, _, _, _, hlen, hg⟩ := DataW.trod_array ht h
  intro i hi
  have hq := hg i hi
  have h2 : xs[i]? = some (xs[i]'(by omega)) := List.getElem?_eq_getElem (by omega)
  rw [h2, hC] at hq
  obtain ⟨y0, y1, n', hx, hl2, q0, q1⟩ := trod_struct2 hs hq
  rw [h0, o0, hc, List.drop_zero] at q0
  rw [h1, o1, hc] at q1
  have l0 : i * 2 < cs.length := by omega
  have l1 : i * 2 + 1 < cs.length := by omega
  rw [List.drop_eq_getElem_cons l0, List.drop_eq_getElem_cons l1] at q0 q1
  simp only [List.take_succ_cons, List.take_zero, List.drop_succ_cons, List.drop_zero] at q0 q1
  obtain ⟨a, ea, _, wa⟩ := DataW.trod_int he q0
  obtain ⟨b, eb, _, wb⟩ := DataW.trod_int he q1
  simp at ea eb
  exact ⟨a, b, by rw [List.getElem?_eq_getElem l0, ea], by rw [List.getElem?_eq_getElem l1, eb], wa, wb⟩

theorem open_pts2 {t s e : TypeId} {f0 f1 : Field} {k : IntKind} {v : Value} {d : DataW H} {p : List MemPlace} (ht : P.underlying t = some (.array 2 s)) (hs : P.underlying s = some (.struct #[f0, f1])) (h0 : f0.type = e) (h1 : f1.type = e) (o0 : f0.offset = 0) (o1 : f1.offset = 1) (he : P.underlying e = some (.int k)) (hc : P.cellsOf e = 1) (hC : P.cellsOf s = 2) (hCt : P.cellsOf t = 4)
    (h : DataW.Trod enc P w base spare held t v d p) : ∃ a b c d : Int, v = .agg #[.int k a, .int k b, .int k c, .int k d] ∧ (Lit.int k a).wf = true ∧ (Lit.int k b).wf = true ∧ (Lit.int k c).wf = true ∧ (Lit.int k d).wf = true := by
  obtain ⟨fuel, hf⟩ := h
  have hl : v.cells.toList.length = 4 := by obtain ⟨xs, m, _, _, hl, _⟩ := DataW.trod_array ht hf; omega
  have hat := pts_at ht hs h0 h1 o0 o1 he hc hC hf hl
  obtain ⟨cs, rfl, hcs⟩ := agg_of_len (v := v) (by omega)
  rw [hcs] at hl hat
  obtain ⟨l⟩ := cs
  obtain ⟨u0, u1, u2, u3, rfl⟩ := list4 hl
  obtain ⟨a, b, ea, eb, wa, wb⟩ := hat 0 (by omega)
  obtain ⟨c, d, ec, ed, wc, wd⟩ := hat 1 (by omega)
  simp at ea eb ec ed
  subst ea eb ec ed
  exact ⟨a, b, c, d, rfl, wa, wb, wc, wd⟩
theorem open_pts3 {t s e : TypeId} {f0 f1 : Field} {k : IntKind} {v : Value} {d : DataW H} {p : List MemPlace} (ht : P.underlying t = some (.array 3 s)) (hs : P.underlying s = some (.struct #[f0, f1])) (h0 : f0.type = e) (h1 : f1.type = e) (o0 : f0.offset = 0) (o1 : f1.offset = 1) (he : P.underlying e = some (.int k)) (hc : P.cellsOf e = 1) (hC : P.cellsOf s = 2) (hCt : P.cellsOf t = 6)
    (h : DataW.Trod enc P w base spare held t v d p) : ∃ a b c d x y : Int, v = .agg #[.int k a, .int k b, .int k c, .int k d, .int k x, .int k y] ∧ (Lit.int k a).wf = true ∧ (Lit.int k b).wf = true ∧ (Lit.int k c).wf = true ∧ (Lit.int k d).wf = true ∧ (Lit.int k x).wf = true ∧ (Lit.int k y).wf = true := by
  obtain ⟨fuel, hf⟩ := h
  have hl : v.cells.toList.length = 6 := by obtain ⟨xs, m, _, _, hl, _⟩ := DataW.trod_array ht hf; omega
  have hat := pts_at ht hs h0 h1 o0 o1 he hc hC hf hl
  obtain ⟨cs, rfl, hcs⟩ := agg_of_len (v := v) (by omega)
  rw [hcs] at hl hat
  obtain ⟨l⟩ := cs
  obtain ⟨u0, u1, u2, u3, u4, u5, rfl⟩ := list6 hl
  obtain ⟨a, b, ea, eb, wa, wb⟩ := hat 0 (by omega)
  obtain ⟨c, d, ec, ed, wc, wd⟩ := hat 1 (by omega)
  obtain ⟨x, y, ex, ey, wx, wy⟩ := hat 2 (by omega)
  simp at ea eb ec ed ex ey
  subst ea eb ec ed ex ey
  exact ⟨a, b, c, d, x, y, rfl, wa, wb, wc, wd, wx, wy⟩
theorem list8 {α : Type} {l : List α} (h : l.length = 8) : ∃ a b c d e f g i, l = [a, b, c, d, e, f, g, i] := by
  match l, h with
  | [a, b, c, d, e, f, g, i], _ => exact ⟨a, b, c, d, e, f, g, i, rfl⟩
theorem open_pts4 {t s e : TypeId} {f0 f1 : Field} {k : IntKind} {v : Value} {d : DataW H} {p : List MemPlace} (ht : P.underlying t = some (.array 4 s)) (hs : P.underlying s = some (.struct #[f0, f1])) (h0 : f0.type = e) (h1 : f1.type = e) (o0 : f0.offset = 0) (o1 : f1.offset = 1) (he : P.underlying e = some (.int k)) (hc : P.cellsOf e = 1) (hC : P.cellsOf s = 2) (hCt : P.cellsOf t = 8)
    (h : DataW.Trod enc P w base spare held t v d p) : ∃ a b c d x y z u : Int, v = .agg #[.int k a, .int k b, .int k c, .int k d, .int k x, .int k y, .int k z, .int k u] ∧ (Lit.int k a).wf = true ∧ (Lit.int k b).wf = true ∧ (Lit.int k c).wf = true ∧ (Lit.int k d).wf = true ∧ (Lit.int k x).wf = true ∧ (Lit.int k y).wf = true ∧ (Lit.int k z).wf = true ∧ (Lit.int k u).wf = true := by
  obtain ⟨fuel, hf⟩ := h
  have hl : v.cells.toList.length = 8 := by obtain ⟨xs, m, _, _, hl, _⟩ := DataW.trod_array ht hf; omega
  have hat := pts_at ht hs h0 h1 o0 o1 he hc hC hf hl
  obtain ⟨cs, rfl, hcs⟩ := agg_of_len (v := v) (by omega)
  rw [hcs] at hl hat
  obtain ⟨l⟩ := cs
  obtain ⟨u0, u1, u2, u3, u4, u5, u6, u7, rfl⟩ := list8 hl
  obtain ⟨a, b, ea, eb, wa, wb⟩ := hat 0 (by omega)
  obtain ⟨c, d, ec, ed, wc, wd⟩ := hat 1 (by omega)
  obtain ⟨x, y, ex, ey, wx, wy⟩ := hat 2 (by omega)
  obtain ⟨z, u, ez, eu, wz, wu⟩ := hat 3 (by omega)
  simp at ea eb ec ed ex ey ez eu
  subst ea eb ec ed ex ey ez eu
  exact ⟨a, b, c, d, x, y, z, u, rfl, wa, wb, wc, wd, wx, wy, wz, wu⟩

/-- a struct of two slices of words -/
theorem open_vec {t e g : TypeId} {f0 f1 : Field} {v : Value} {d : DataW H} {p : List MemPlace} (hs : P.underlying t = some (.struct #[f0, f1])) (h0 : f0.type = e) (h1 : f1.type = e) (o0 : f0.offset = 0) (o1 : f1.offset = 1) (he : P.underlying e = some (.slice g)) (hg : P.underlying g = some (.int .u64)) (hc : P.cellsOf e = 1) (hcg : P.cellsOf g = 1) (hC : P.cellsOf t = 2)
    (h : DataW.Trod enc P w base spare held t v d p) : ∃ (A : Option Addr) (n c : Nat) (x : Int) (A' : Option Addr) (n' c' : Nat) (x' : Int), v = .agg #[.slice A n c, .slice A' n' c'] ∧ Wd.Fit n x ∧ Sl w .u64 A n c (Wd.lmb x) ∧ Wd.Fit n' x' ∧ Sl w .u64 A' n' c' (Wd.lmb x') := by
  obtain ⟨fuel, hf⟩ := h
  obtain ⟨y0, y1, n, hx, hl, q0, q1⟩ := trod_struct2 hs hf
  rw [hC] at hl
  obtain ⟨cs, rfl, hcs⟩ := agg_of_len (v := v) (by omega)
  rw [hcs] at hl q0 q1
  obtain ⟨l⟩ := cs
  obtain ⟨u0, u1, rfl⟩ := list2 hl
  rw [h0, o0, hc] at q0
  rw [h1, o1, hc] at q1
  have one : ∀ (u : Value) (y : DataW H × List MemPlace), DataW.trod enc P w base spare held n e [u] = some y → ∃ A n c, u = .slice A n c := by
    intro u y hq
    rcases Go.Deep.open_slice1 he hcg hq with ⟨hcs, _⟩ | ⟨a, len, cap, m, n', V, D, Pl, hcs, _⟩
    · simp at hcs; exact ⟨_, _, _, hcs⟩
    · simp at hcs; exact ⟨_, _, _, hcs⟩
  simp at q0 q1
  obtain ⟨A, m, c, rfl⟩ := one _ _ q0
  obtain ⟨A', m', c', rfl⟩ := one _ _ q1
  obtain ⟨x, hx1, hx2⟩ := open_words (w := w) he hg hcg (d := y0.1) (p := y0.2) ⟨n, q0⟩
  obtain ⟨x', hx3, hx4⟩ := open_words (w := w) he hg hcg (d := y1.1) (p := y1.2) ⟨n, q1⟩
  exact ⟨A, m, c, x, A', m', c', x', rfl, hx1, hx2, hx3, hx4⟩
end Op
end Go.Proofs.YtjdiilkljgljkaaGreatDoor
namespace Go.Proofs.YtjdiilkljgljkaaGreatDoor
set_option linter.unusedVariables false
namespace Wd

theorem abs_mul_le {x y a b : Int} (hx : -a ≤ x ∧ x ≤ a) (hy : -b ≤ y ∧ y ≤ b) : -(a * b) ≤ x * y ∧ x * y ≤ a * b := by
  have hx' : x.natAbs ≤ a.natAbs := by omega
  have hy' : y.natAbs ≤ b.natAbs := by omega
  have h := Nat.mul_le_mul hx' hy'
  rw [← Int.natAbs_mul, ← Int.natAbs_mul] at h
  have ha : 0 ≤ a := by omega
  have hb : 0 ≤ b := by omega
  have hab := Int.mul_nonneg ha hb
  generalize x * y = p at *
  generalize a * b = q at *
  omega
/-- the determinant of a, b, c -/
def det (ax ay bx b_ cx cy : Int) : Int := (bx - ax) * (cy - ay) - (b_ - ay) * (cx - ax)
def IsD (x : Int) : Prop := -18446744073709551615 ≤ x ∧ x ≤ 18446744073709551615
theorem isD_sub {a b : Int} (ha : IsI a) (hb : IsI b) : IsD (a - b) := by unfold IsI at *; unfold IsD; omega
theorem isD_mul {x y : Int} (hx : IsD x) (hy : IsD y) : -340282366920938463426481119284349108225 ≤ x * y ∧ x * y ≤ 340282366920938463426481119284349108225 := abs_mul_le hx hy
theorem isD_fit {x : Int} (hx : IsD x) : Fit 2 x := by
  unfold IsD at hx; unfold Fit
  rw [show S 2 = 340282366920938463463374607431768211456 from rfl]; omega
theorem det_bd {ax ay bx b_ cx cy : Int} (h1 : IsI ax) (h2 : IsI ay) (h3 : IsI bx) (h4 : IsI b_) (h5 : IsI cx) (h6 : IsI cy) :
    -680564733841876926852962238568698216450 ≤ det ax ay bx b_ cx cy ∧ det ax ay bx b_ cx cy ≤ 680564733841876926852962238568698216450 := by
  have e1 := isD_mul (isD_sub h3 h1) (isD_sub h6 h2)
  have e2 := isD_mul (isD_sub h4 h2) (isD_sub h5 h1)
  unfold det
  omega
theorem fit3_of {x : Int} (h : -680564733841876926852962238568698216450 ≤ x ∧ x ≤ 680564733841876926852962238568698216450) : Fit 3 x := by
  unfold Fit
  rw [show S 3 = 6277101735386680763835789423207666416102355444464034512896 from rfl]; omega
theorem det_fit {ax ay bx b_ cx cy : Int} (h1 : IsI ax) (h2 : IsI ay) (h3 : IsI bx) (h4 : IsI b_) (h5 : IsI cx) (h6 : IsI cy) : Fit 3 (det ax ay bx b_ cx cy) := fit3_of (det_bd h1 h2 h3 h4 h5 h6)
theorem norm_bd {x y : Int} (hx : IsD x) (hy : IsD y) : 0 ≤ x * x + y * y ∧ x * x + y * y ≤ 680564733841876926852962238568698216450 := by
  have e1 := isD_mul hx hx
  have e2 := isD_mul hy hy
  have p1 : 0 ≤ x * x := by rcases Int.le_total 0 x with h | h; exact Int.mul_nonneg h h; exact Int.mul_nonneg_of_nonpos_of_nonpos h h
  have p2 : 0 ≤ y * y := by rcases Int.le_total 0 y with h | h; exact Int.mul_nonneg h h; exact Int.mul_nonneg_of_nonpos_of_nonpos h h
  omega
end Wd
/-- the three coordinates pairs are signed words -/
structure P3 (ax ay bx b_ cx cy : Int) : Prop where
  a : Wd.IsI ax
  b : Wd.IsI ay
  c : Wd.IsI bx
  d : Wd.IsI b_
  e : Wd.IsI cx
  f : Wd.IsI cy
theorem P3.fit {ax ay bx b_ cx cy : Int} (h : P3 ax ay bx b_ cx cy) : Wd.Fit 3 (Wd.det ax ay bx b_ cx cy) := Wd.det_fit h.a h.b h.c h.d h.e h.f
end Go.Proofs.YtjdiilkljgljkaaGreatDoor
namespace Go.Proofs.YtjdiilkljgljkaaGreatDoor
set_option linter.unusedVariables false
set_option linter.unusedSimpArgs false
open Go.RowKit Wd

/-- the slice '.slice A n c' holds the points (f 0, g 0) .. -/
structure Pts (w : World) (A : Option Addr) (n c : Nat) (f g : Nat → Int) : Prop where
  cap : n ≤ c
  max : c ≤ maxLen
  isi : ∀ i, i < n → IsI (f i) ∧ IsI (g i)
  at_ : 0 < n → ∃ b off, A = some ⟨b, off, none⟩ ∧ b < w.heap.size ∧ ∀ i, i < n → w.cell? ⟨b, off + i * 2, none⟩ = some (.int .i64 (f i)) ∧ w.cell? ⟨b, off + i * 2 + 1, none⟩ = some (.int .i64 (g i))

theorem Pts.below {w w' : World} {B : Nat} {A : Option Addr} {n c : Nat} {f g : Nat → Int} (h : Pts w A n c f g) (hb : Below B w w') (hB : w.heap.size ≤ B) : Pts w' A n c f g :=
  ⟨h.cap, h.max, h.isi, fun hn => by
    obtain ⟨b, off, e, hlt, hc⟩ := h.at_ hn
    exact ⟨b, off, e, Nat.lt_of_lt_of_le hlt hb.size, fun i hi => ⟨(hb.cell (p := ⟨b, off + i * 2, none⟩) (by show b < B; omega)).trans (hc i hi).1, (hb.cell (p := ⟨b, off + i * 2 + 1, none⟩) (by show b < B; omega)).trans (hc i hi).2⟩⟩⟩
theorem Pts.alloc {w : World} {A : Option Addr} {n c : Nat} {f g : Nat → Int} (h : Pts w A n c f g) (o : Obj) : Pts (w.alloc o) A n c f g :=
  h.below ((Below.refl w.heap.size w).alloc (Nat.le_refl _) o) (Nat.le_refl _)
theorem Pts.drew {w : World} {A : Option Addr} {n c : Nat} {f g : Nat → Int} (h : Pts w A n c f g) : Pts w.drew A n c f g := h.below (Below.refl w.heap.size w).drew (Nat.le_refl _)

/-- three points in a box are a slice -/
def sel3 (x y z : Int) : Nat → Int := fun i => if i = 0 then x else if i = 1 then y else z
theorem Bx.pts3 {w : World} {b : Nat} {ax ay bx b_ cx cy : Int} {t : TypeId} (h : Bx w b #[.int .i64 ax, .int .i64 ay, .int .i64 bx, .int .i64 b_, .int .i64 cx, .int .i64 cy] t) (hp : P3 ax ay bx b_ cx cy) :
    Pts w (some ⟨b, 0, none⟩) 3 3 (sel3 ax bx cx) (sel3 ay b_ cy) :=
  ⟨Nat.le_refl _, by decide, fun i hi => by
    match i, hi with
    | 0, _ => exact ⟨hp.a, hp.b⟩
    | 1, _ => exact ⟨hp.c, hp.d⟩
    | 2, _ => exact ⟨hp.e, hp.f⟩, fun _ => ⟨b, 0, rfl, h.lt, fun i hi => by
    match i, hi with
    | 0, _ => exact ⟨h.cell 0 rfl, h.cell 1 rfl⟩
    | 1, _ => exact ⟨h.cell 2 rfl, h.cell 3 rfl⟩
    | 2, _ => exact ⟨h.cell 4 rfl, h.cell 5 rfl⟩⟩⟩

namespace Op
open Go.ChangeShapes Go.WideShapes Go.ChangeAt
variable {H : Type} {enc : TypeId × Value → H} {P : Program} {w : World} {base : Nat} {spare : Nat → Bool} {held : Bool}

/-- a slice of points -/
theorem open_ptsl {t e k : TypeId} {f0 f1 : Field} {A : Option Addr} {n c : Nat} {d : DataW H} {p : List MemPlace} (ht : P.underlying t = some (.slice e)) (he : P.underlying e = some (.struct #[f0, f1])) (h0 : f0.type = k) (h1 : f1.type = k) (o0 : f0.offset = 0) (o1 : f1.offset = 1) (hk : P.underlying k = some (.int .i64)) (ck : P.cellsOf k = 1) (ce : P.cellsOf e = 2)
    (h : DataW.Trod enc P w base spare held t (.slice A n c) d p) : ∃ f g : Nat → Int, Pts w A n c f g := by
  obtain ⟨fuel, hf⟩ := h
  rcases Go.Deep.open_slice_pairs ht he ce o0 o1 (by rw [h0, ck]) (by rw [h1, ck]) hf with ⟨hcs, _⟩ | ⟨a, len, cap, m, n', V0, V1, D0, D1, Q0, Q1, hcs, _, hl, hm, hmm, _, hx⟩
  · have e0 : Value.slice A n c = .slice none 0 0 := by simpa [Value.cells] using hcs
    injection e0 with e1 e2 e3
    subst e1 e2 e3
    exact ⟨fun _ => 0, fun _ => 0, Nat.le_refl _, Nat.zero_le _, fun i hi => absurd hi (Nat.not_lt_zero _), fun h => absurd h (Nat.lt_irrefl _)⟩
  · have e0 : Value.slice A n c = .slice (some a) len cap := by simpa [Value.cells] using hcs
    injection e0 with e1 e2 e3
    subst e1 e2 e3
    have hmn : n ≤ m := by rw [hmm]; split <;> omega
    have hV : ∀ i, i < n → ∃ y z : Int, V0 i = .int .i64 y ∧ V1 i = .int .i64 z ∧ IsI y ∧ IsI z := fun i hi => by
      obtain ⟨_, _, q0, q1⟩ := hx i (by omega)
      rw [h0] at q0; rw [h1] at q1
      obtain ⟨y, e2, _, wy⟩ := DataW.trod_int hk q0
      obtain ⟨z, e3, _, wz⟩ := DataW.trod_int hk q1
      simp at e2 e3
      exact ⟨y, z, e2, e3, isI_of_wf wy, isI_of_wf wz⟩
    refine ⟨fun i => match V0 i with | .int _ y => y | _ => 0, fun i => match V1 i with | .int _ y => y | _ => 0, hl, hm, fun i hi => ?_, fun hn => ?_⟩
    · obtain ⟨y, z, e2, e3, wy, wz⟩ := hV i hi
      simp only [e2, e3]; exact ⟨wy, wz⟩
    · have hc0 := (hx 0 (by omega)).1
      obtain ⟨b, off, sp⟩ := a
      have h0' : w.cell? ⟨b, off, sp⟩ = some (V0 0) := by simpa [Addr.add] using hc0
      obtain ⟨rfl, hlt⟩ := spotless h0'
      refine ⟨b, off, rfl, hlt, fun i hi => ?_⟩
      obtain ⟨y, z, e2, e3, wy, wz⟩ := hV i hi
      have g0 := (hx i (by omega)).1
      have g1 := (hx i (by omega)).2.1
      have ea : ∀ j, (⟨b, off, none⟩ : Addr).add j = ⟨b, off + j, none⟩ := fun j => by unfold Addr.add; split <;> simp_all
      rw [ea] at g0 g1
      simp only [e2, e3] at *
      exact ⟨g0, g1⟩
end Op

/-- copy of whole points over a box's cells -/
theorem run_copy2 {P : Program} (w : World) (dT sT ty elem : TypeId) (g o dLen dCap : Nat) (a : Addr) (sLen sCap m : Nat) (cur : Array Value) (t : TypeId) (cs : List Value)
    (hu : P.underlying dT = some (.slice elem)) (hs : (P.info? elem).map (·.size) = some 2)
    (hg : w.heap[g]? = some (.cells cur t (0, 0))) (hm : m = Nat.min sLen dLen) (hn : cs.length = m * 2)
    (hsrc : ∀ j v, cs[j]? = some v → w.cell? (a.add j) = some v) (hfit : o + cs.length ≤ cur.size) (h1 : ∀ v ∈ cs, v.oneCell' = true) :
    (Builtin.copy_ #[dT, sT] ty #[.slice (some ⟨g, o, none⟩) dLen dCap, .slice (some a) sLen sCap]).run P w =
      .ok (goInt m) (w.setRow g (cur.toList.take o ++ cs ++ cur.toList.drop (o + cs.length)).toArray) := by
  have hl := run_loadCells_list (P := P) w a cs hsrc
  have hst := run_storeCells_at P g o t cs 0 cur w hg (by simpa using hfit) h1
  cases hq : P.info? elem with
  | none => simp [hq] at hs
  | some i =>
    have hi : i.size = 2 := by simpa [hq] using hs
    simp [Builtin.copy_, run_underlying hu, Builtin.lenOf, Builtin.firstCells, sizeOf, typeInfo, hq, hi, ← hm, ← hn, hl, hst]

/-- copy of whole points over a whole box -/
theorem copy2_ex {P : Program} (w : World) (dT sT ty elem : TypeId) (hu : P.underlying dT = some (.slice elem)) (hsz : (P.info? elem).map (·.size) = some 2)
    (g dLen dCap : Nat) (ad : Addr) (sLen sCap m : Nat) (cur : Array Value) (t : TypeId) (hg : Bx w g cur t) (cs : List Value) (hm : m = Nat.min sLen dLen) (hn : cs.length = m * 2)
    (hsrc : ∀ j v, cs[j]? = some v → w.cell? (ad.add j) = some v) (hfit : cs.length = cur.size) (h1 : ∀ v ∈ cs, v.oneCell' = true) (B : Nat) (w0 : World) (hb : Below B w0 w) (hBg : B ≤ g) :
    ∃ w', (Builtin.copy_ #[dT, sT] ty #[.slice (some ⟨g, 0, none⟩) dLen dCap, .slice (some ad) sLen sCap]).run P w = .ok (goInt m) w' ∧ Bx w' g cs.toArray t ∧ (∀ c, c ≠ g → w'.heap[c]? = w.heap[c]?) ∧ Below B w0 w' := by
  have hrun := run_copy2 (P := P) w dT sT ty elem g 0 dLen dCap ad sLen sCap m cur t cs hu hsz hg hm hn hsrc (by omega) h1
  have e : (cur.toList.take 0 ++ cs ++ cur.toList.drop (0 + cs.length)).toArray = cs.toArray := by
    rw [List.drop_eq_nil_of_le (by simp; omega)]; simp
  rw [e] at hrun
  exact ⟨_, hrun, setRow_heap w g _ _ t _ hg, fun c hc => setRow_other w g c _ hc, below_setRow hb hBg _⟩

/-- six cells one behind the other -/
structure C6 (w : World) (b off : Nat) (ax ay bx b_ cx cy : Int) : Prop where
  lt : b < w.heap.size
  c0 : w.cell? ⟨b, off, none⟩ = some (.int .i64 ax)
  c1 : w.cell? ⟨b, off + 1, none⟩ = some (.int .i64 ay)
  c2 : w.cell? ⟨b, off + 2, none⟩ = some (.int .i64 bx)
  c3 : w.cell? ⟨b, off + 3, none⟩ = some (.int .i64 b_)
  c4 : w.cell? ⟨b, off + 4, none⟩ = some (.int .i64 cx)
  c5 : w.cell? ⟨b, off + 5, none⟩ = some (.int .i64 cy)
theorem C6.below {w w' : World} {B b off : Nat} {ax ay bx b_ cx cy : Int} (h : C6 w b off ax ay bx b_ cx cy) (hb : Below B w w') (hB : w.heap.size ≤ B) : C6 w' b off ax ay bx b_ cx cy := by
  have hlt := h.lt
  have k : ∀ o, w'.cell? ⟨b, o, none⟩ = w.cell? ⟨b, o, none⟩ := fun o => hb.cell (p := ⟨b, o, none⟩) (by show b < B; omega)
  exact ⟨Nat.lt_of_lt_of_le h.lt hb.size, (k _).trans h.c0, (k _).trans h.c1, (k _).trans h.c2, (k _).trans h.c3, (k _).trans h.c4, (k _).trans h.c5⟩
theorem C6.alloc {w : World} {b off : Nat} {ax ay bx b_ cx cy : Int} (h : C6 w b off ax ay bx b_ cx cy) (o : Obj) : C6 (w.alloc o) b off ax ay bx b_ cx cy :=
  h.below ((Below.refl w.heap.size w).alloc (Nat.le_refl _) o) (Nat.le_refl _)
theorem C6.src {w : World} {b off : Nat} {ax ay bx b_ cx cy : Int} (h : C6 w b off ax ay bx b_ cx cy) :
    ∀ j v, [Value.int .i64 ax, .int .i64 ay, .int .i64 bx, .int .i64 b_, .int .i64 cx, .int .i64 cy][j]? = some v → w.cell? ((⟨b, off, none⟩ : Addr).add j) = some v := by
  intro j v hj
  match j, hj with
  | 0, hj => simp at hj; subst hj; simpa [Addr.add] using h.c0
  | 1, hj => simp at hj; subst hj; simpa [Addr.add] using h.c1
  | 2, hj => simp at hj; subst hj; simpa [Addr.add] using h.c2
  | 3, hj => simp at hj; subst hj; simpa [Addr.add] using h.c3
  | 4, hj => simp at hj; subst hj; simpa [Addr.add] using h.c4
  | 5, hj => simp at hj; subst hj; simpa [Addr.add] using h.c5
  | j + 6, hj => simp at hj
/-- a slice of three points -/
structure T3 (w : World) (A : Option Addr) (c : Nat) (ax ay bx b_ cx cy : Int) : Prop where
  cap : 3 ≤ c
  max : c ≤ maxLen
  at_ : ∃ b off, A = some ⟨b, off, none⟩ ∧ C6 w b off ax ay bx b_ cx cy
theorem T3.below {w w' : World} {B : Nat} {A : Option Addr} {c : Nat} {ax ay bx b_ cx cy : Int} (h : T3 w A c ax ay bx b_ cx cy) (hb : Below B w w') (hB : w.heap.size ≤ B) : T3 w' A c ax ay bx b_ cx cy :=
  ⟨h.cap, h.max, by obtain ⟨b, off, e, hc⟩ := h.at_; exact ⟨b, off, e, hc.below hb hB⟩⟩
theorem T3.alloc {w : World} {A : Option Addr} {c : Nat} {ax ay bx b_ cx cy : Int} (h : T3 w A c ax ay bx b_ cx cy) (o : Obj) : T3 (w.alloc o) A c ax ay bx b_ cx cy :=
  h.below ((Below.refl w.heap.size w).alloc (Nat.le_refl _) o) (Nat.le_refl _)
theorem Pts.t3 {w : World} {A : Option Addr} {c : Nat} {f g : Nat → Int} (h : Pts w A 3 c f g) : T3 w A c (f 0) (g 0) (f 1) (g 1) (f 2) (g 2) :=
  ⟨h.cap, h.max, by
    obtain ⟨b, off, e, hlt, hc⟩ := h.at_ (by omega)
    exact ⟨b, off, e, hlt, (hc 0 (by omega)).1, (hc 0 (by omega)).2, (hc 1 (by omega)).1, (hc 1 (by omega)).2, (hc 2 (by omega)).1, (hc 2 (by omega)).2⟩⟩
theorem Pts.p3 {w : World} {A : Option Addr} {c : Nat} {f g : Nat → Int} (h : Pts w A 3 c f g) : P3 (f 0) (g 0) (f 1) (g 1) (f 2) (g 2) :=
  ⟨(h.isi 0 (by omega)).1, (h.isi 0 (by omega)).2, (h.isi 1 (by omega)).1, (h.isi 1 (by omega)).2, (h.isi 2 (by omega)).1, (h.isi 2 (by omega)).2⟩
theorem Bx.c6 {w : World} {b : Nat} {ax ay bx b_ cx cy : Int} {t : TypeId} (h : Bx w b #[.int .i64 ax, .int .i64 ay, .int .i64 bx, .int .i64 b_, .int .i64 cx, .int .i64 cy] t) : C6 w b 0 ax ay bx b_ cx cy :=
  ⟨h.lt, h.cell 0 rfl, h.cell 1 rfl, h.cell 2 rfl, h.cell 3 rfl, h.cell 4 rfl, h.cell 5 rfl⟩
theorem Bx.t3 {w : World} {b : Nat} {ax ay bx b_ cx cy : Int} {t : TypeId} (h : Bx w b #[.int .i64 ax, .int .i64 ay, .int .i64 bx, .int .i64 b_, .int .i64 cx, .int .i64 cy] t) : T3 w (some ⟨b, 0, none⟩) 3 ax ay bx b_ cx cy :=
  ⟨Nat.le_refl _, by decide, b, 0, rfl, h.c6⟩
end Go.Proofs.YtjdiilkljgljkaaGreatDoor
namespace Go.Proofs.YtjdiilkljgljkaaGreatDoor
set_option linter.unusedVariables false
set_option linter.unusedSimpArgs false
open Go.RowKit Wd

theorem byt_succ (x : Int) (k : Nat) : x / 256 ^ k / 256 = x / 256 ^ (k + 1) := by rw [Int.pow_succ, Int.ediv_ediv_of_nonneg (Int.le_of_lt (Int.pow_pos (by decide)))]
theorem wrapU8 (x : Int) : IntKind.u8.wrap x = x % 256 := IntKind.wrap_u8 x
theorem wrap8_mod (x : Int) : IntKind.u8.wrap (x % 256) = x % 256 := by rw [IntKind.wrap_u8]; omega
theorem isW_div {x : Int} (h : IsW x) (k : Nat) : IsW (x / 256 ^ k) := by
  have hp : (0 : Int) < 256 ^ k := Int.pow_pos (by decide)
  unfold IsW at *
  have h1 := Int.ediv_nonneg h.1 (Int.le_of_lt hp)
  have h2 := Int.ediv_le_self (256 ^ k) h.1
  omega
set_option maxHeartbeats 2000000 in
set_option maxRecDepth 100000 in
theorem ref18_word (base : Nat) (v : Value) (l : List Int) (x : Int) (hx : IsW x) (hl : l.length ≤ 1000000) (w : World) (hb : base ≤ w.heap.size) (ho : OwB w base v l) :
    Calls Tryz.prog 45 #[v, .int .u64 x] w fun e w' => (∃ v', e = .returned v' ∧ OwB w' base v' (l ++ le8 x)) ∧ Fr base none w w' := by
  obtain ⟨i0, hi0, hz0, hz1, hz2⟩ := info_parts infoB
  have HO := Lib.hid ho; have HX := Lib.hid hx; have HLL := Lib.hid hl; clear ho hx hl
  go_enter Tryz.func45, Tryz.ntmps45
  go_wp2_with fail
  go_loopw [0, 1, 5] (fun vr xr ir wr => ∃ k : Nat, k ≤ 8 ∧ ir = .int .i64 (k : Int) ∧ xr = .int .u64 (x / 256 ^ k) ∧ OwB wr base vr (l ++ bytL x k) ∧ Fr base none w wr) (fun _ _ i _ => 8 - (intOf i).toNat)
  case atStart => exact ⟨0, Nat.zero_le _, rfl, by simp, by simpa [bytL] using HO.out, Fr.refl _ _ _⟩
  case round =>
    obtain ⟨k, hk, rfl, rfl, hown, hbr⟩ := hrel
    have HOW := Lib.hid hown; have HBR := Lib.hid hbr; clear hown hbr
    have hlen : (l ++ bytL x k).length = l.length + k := by simp [bytL_len]
    have HL := Lib.hid hlen; clear hlen
    by_cases hlt : k < 8
    · have HW := isW_div HX.out k
      generalize hy : x / 256 ^ k = y at *
      have HY := Lib.hid hy; clear hy
      have e1 := wrap8_mod y
      have e2 : y.tmod 256 = y % 256 := Int.tmod_eq_emod_of_nonneg HW.1
      have e3 : y.tdiv 256 = y / 256 := Int.tdiv_eq_ediv_of_nonneg HW.1
      have hq : 0 ≤ y := HW.1
      have HW := Lib.hid HW
      have hown : wr.ownsRow base 5 1 u0 (l.length + k) (bCells (l ++ bytL x k)) := by have := HOW.out; unfold OwB at this; rw [HL.out] at this; exact this
      go_wp2_with (at_builtin; refine wpList_append_own _ rfl _ _ 24 rfl base 5 i0 (.int .u8 0) 1 1 Tryz.underlying24 hi0 hz0 hz1 hz2 rfl (by decide) _ _ _ rfl (hown.alloc _) ⟨wr.heap.size, 0, none⟩ 1 1 [.int .u8 (y % 256)] rfl rfl ?c1 ?c2 ?c3 ?c4 ?c5 ?_)
      case c1 => exact cells_one_new _ _ _
      case c2 => exact one_oneCell _ _
      case c3 => have := HLL.out; unfold maxLen; omega
      case c4 => have := HLL.out; omega
      case c5 => have := HBR.out.size; simp; omega
      intro v' w2 hown2 hgrow _
      have hb3 : Fr base none w w2 := (HBR.out.alloc (by have := HBR.out.size; omega) _).grown hgrow (hown.alloc _) (by have := HBR.out.size; simp; omega)
      have hown3 : OwB w2 base v' (l ++ bytL x (k + 1)) := by
        rw [bytL_succ, ← List.append_assoc]
        refine OwB.snoc (n := l.length + k + 1) ?_ (by rw [HL.out])
        unfold byt; rw [HY.out]; exact hown2
      have hyy := byt_succ x k
      rw [HY.out] at hyy
      have H3 := Lib.hid hown3; have B3 := Lib.hid hb3; have HYY := Lib.hid hyy
      clear hown2 hgrow hown hb3 hown3 hyy
      go_wp2
      go_roundw
      case rel => exact ⟨k + 1, by omega, by go_num, by rw [HYY.out, wrapU, lo_in (isW_div HX.out _)], H3.out, B3.out⟩
      case measure => simp [intOf]; omega
    · generalize x / 256 ^ k = y at *
      obtain rfl : k = 8 := by omega
      go_wp2_with fail
      go_ret
      exact ⟨⟨_, rfl, HOW.out⟩, HBR.out⟩
end Go.Proofs.YtjdiilkljgljkaaGreatDoor
namespace Go.Proofs.YtjdiilkljgljkaaGreatDoor
set_option linter.unusedVariables false
set_option linter.unusedSimpArgs false

/-- how many operations have not come up yet -/
def unl (l : Array Bool) : Nat := l.toList.countP (fun b => !b)
theorem getD_lt {l : Array Bool} {i : Nat} (h : l.getD i true = false) : ∃ h' : i < l.size, l[i] = false := by
  by_cases hi : i < l.size
  · refine ⟨hi, ?_⟩; simpa [Array.getD, hi] using h
  · simp [Array.getD, hi] at h
theorem unl_set {l : Array Bool} {i : Nat} (h : l.getD i true = false) : unl (l.setIfInBounds i true) + 1 = unl l := by
  obtain ⟨hi, he⟩ := getD_lt h
  have hl : i < l.toList.length := by simpa using hi
  have he' : l.toList[i] = false := by simpa using he
  unfold unl
  rw [Array.toList_setIfInBounds, List.countP_set hl]
  have hpos : 0 < l.toList.countP (fun b => !b) := List.countP_pos_iff.2 ⟨false, by rw [← he']; exact List.getElem_mem hl, rfl⟩
  rw [he']
  generalize l.toList.countP (fun b => !b) = k at hpos ⊢
  simp
  omega
theorem all_of_unl {l : Array Bool} (h : unl l = 0) : ∀ i, i < l.size → l.getD i false = true := by
  intro i hi
  unfold unl at h
  rw [List.countP_eq_zero] at h
  have := h (l.toList[i]'(by simpa using hi)) (List.getElem_mem _)
  simp at this
  simp [Array.getD, hi, this]

section
variable {P : Program} {ops : Array Oper} {Q : Exit → Act → World → Prop} {md : Region.Mode}
/-- each operation waits for earlier ones alone -/
def ordB (md : Region.Mode) (ops : Array Oper) : Bool := (List.range ops.size).all fun i => ((ops[i]?).map fun o => o.after.all fun e => !Region.binds md e || decide (e.on < i)).getD true
theorem ordB_spec (h : ordB md ops = true) {i : Nat} {o : Oper} (ho : ops[i]? = some o) : ∀ e ∈ o.after, Region.binds md e = true → e.on < i := by
  unfold ordB at h
  rw [List.all_eq_true] at h
  have hi : i < ops.size := (Array.getElem?_eq_some_iff.1 ho).1
  have := h i (List.mem_range.2 hi)
  rw [ho] at this
  simp only [Option.map_some, Option.getD_some, Array.all_eq_true_iff_forall_mem, Bool.or_eq_true, Bool.not_eq_true', decide_eq_true_eq] at this
  intro e he hb
  rcases this e he with h | h
  · rw [hb] at h; cases h
  · exact h
theorem all_of_ready {listed : Array Bool} (hord : ordB md ops = true) (hs : listed.size = ops.size) (hr : Region.ready md ops listed = []) : ∀ i, i < ops.size → listed.getD i false = true := by
  intro i
  induction i using Nat.strongRecOn with
  | _ i ih =>
    intro hi
    cases hl : listed.getD i true with
    | true => simpa [Array.getD, hs, hi] using hl
    | false =>
      exfalso
      obtain ⟨o, ho⟩ : ∃ o, ops[i]? = some o := ⟨ops[i], by simp [hi]⟩
      have : i ∈ Region.ready md ops listed := mem_ready.2 ⟨hl, o, ho, fun e he hb => by
        have hlt := ordB_spec hord ho e he hb
        exact ih _ hlt (by omega)⟩
      rw [hr] at this
      cases this

theorem wpAny_inv (I : Array Bool → Act → World → Prop) (hord : ordB md ops = true)
    (hstep : ∀ (listed : Array Bool) (a : Act) (w : World) (i : Nat) (o : Oper), listed.size = ops.size → ops[i]? = some o → listed.getD i true = false → (∀ e ∈ o.after, Region.binds md e = true → listed.getD e.on false = true) →
      I listed a w → wpOp P ops Q i (I (listed.setIfInBounds i true)) a w)
    (hend : ∀ (listed : Array Bool) (a : Act) (w : World), (∀ i, i < ops.size → listed.getD i false = true) → I listed a w → Q .normal a w) :
    ∀ (fuel : Nat) (listed : Array Bool) (a : Act) (w : World), listed.size = ops.size → unl listed ≤ fuel → I listed a w → wpAny P md ops Q fuel listed a w := by
  intro fuel
  induction fuel with
  | zero =>
    intro listed a w hs hu hI
    have hall := all_of_unl (l := listed) (by omega)
    refine ⟨?_, hend _ _ _ (fun i hi => hall i (by omega)) hI⟩
    rw [List.eq_nil_iff_forall_not_mem]
    intro i hi
    obtain ⟨h0, o, ho, _⟩ := mem_ready.1 hi
    obtain ⟨hi', he⟩ := getD_lt h0
    have := hall i hi'
    simp [Array.getD, hi', he] at this
  | succ fuel ih =>
    intro listed a w hs hu hI
    refine ⟨fun hr => hend _ _ _ (all_of_ready hord hs hr) hI, fun i hi => ?_⟩
    obtain ⟨h0, o, ho, hp⟩ := mem_ready.1 hi
    refine wpOp_mono (fun a' w' h' => ih _ a' w' (by simpa using hs) (by have := unl_set h0; omega) h') (hstep listed a w i o hs ho h0 hp hI)

/-- the same, where a condition S on the world is kept besides -/
theorem wpAnyH_inv {S : World → Prop} (I : Array Bool → Act → World → Prop) (hord : ordB md ops = true) (hS : ∀ listed a w, I listed a w → S w)
    (hstep : ∀ (listed : Array Bool) (a : Act) (w : World) (i : Nat) (o : Oper), listed.size = ops.size → ops[i]? = some o → listed.getD i true = false → (∀ e ∈ o.after, Region.binds md e = true → listed.getD e.on false = true) →
      I listed a w → wpOp P ops Q i (I (listed.setIfInBounds i true)) a w)
    (hend : ∀ (listed : Array Bool) (a : Act) (w : World), (∀ i, i < ops.size → listed.getD i false = true) → I listed a w → Q .normal a w) :
    ∀ (fuel : Nat) (listed : Array Bool) (a : Act) (w : World), listed.size = ops.size → unl listed ≤ fuel → I listed a w → wpAnyH P md ops Q S fuel listed a w := by
  intro fuel
  induction fuel with
  | zero =>
    intro listed a w hs hu hI
    have hall := all_of_unl (l := listed) (by omega)
    refine ⟨?_, hend _ _ _ (fun i hi => hall i (by omega)) hI⟩
    rw [List.eq_nil_iff_forall_not_mem]
    intro i hi
    obtain ⟨h0, o, ho, _⟩ := mem_ready.1 hi
    obtain ⟨hi', he⟩ := getD_lt h0
    have := hall i hi'
    simp [Array.getD, hi', he] at this
  | succ fuel ih =>
    intro listed a w hs hu hI
    refine ⟨fun hr => hend _ _ _ (all_of_ready hord hs hr) hI, fun i hi => ?_⟩
    obtain ⟨h0, o, ho, hp⟩ := mem_ready.1 hi
    refine wpOp_mono (fun a' w' h' => ⟨hS _ _ _ h', ih _ a' w' (by simpa using hs) (by have := unl_set h0; omega) h'⟩) (hstep listed a w i o hs ho h0 hp hI)
end
end Go.Proofs.YtjdiilkljgljkaaGreatDoor
namespace Go.Proofs.YtjdiilkljgljkaaGreatDoor
set_option linter.unusedVariables false
set_option linter.unusedSimpArgs false
open Go.RowKit

/-- a variable that a region makes: the operation that allocates it, the one that stores into it, its slot, its type, its zero cells -/
structure BoxD where
  al : Nat
  st : Nat
  slot : Nat
  ty : TypeId
  z : Array Value
  v : List Value

theorem act_put_get {a : Act} {t s : Nat} {v : Value} (h : s < a.tmps.size) : (a.put (some s) v).tmps[t]? = if s = t then some v else a.tmps[t]? := by
  show (a.tmps.setIfInBounds s v)[t]? = _
  rw [Array.getElem?_setIfInBounds]
  by_cases e : s = t
  · subst e; simp [h]
  · simp [e]

/-- the distinctness of a list of boxes, as a Bool -/
def boxesB (ops : Array Oper) (bs : List BoxD) : Bool :=
  ordB .any ops && decide ((bs.map (·.slot)).Nodup) && decide ((bs.map (·.al) ++ bs.map (·.st)).Nodup) && bs.all (fun b => decide (b.al < ops.size) && decide (b.st < ops.size) && ((ops[b.st]?).map fun o => o.after.any fun e => Region.binds .any e && (e.on == b.al)).getD false)

structure BoxSpec (ops : Array Oper) (bs : List BoxD) : Prop where
  ord : ordB .any ops = true
  slots : (bs.map (·.slot)).Nodup
  nums : (bs.map (·.al) ++ bs.map (·.st)).Nodup
  lt : ∀ b ∈ bs, b.al < ops.size ∧ b.st < ops.size
  pre : ∀ b ∈ bs, ∀ o, ops[b.st]? = some o → ∃ e ∈ o.after, Region.binds .any e = true ∧ e.on = b.al
theorem boxesB_spec {ops : Array Oper} {bs : List BoxD} (h : boxesB ops bs = true) : BoxSpec ops bs := by
  unfold boxesB at h
  simp only [Bool.and_eq_true, decide_eq_true_eq, List.all_eq_true] at h
  obtain ⟨⟨⟨h1, h2⟩, h3⟩, h4⟩ := h
  refine ⟨h1, h2, h3, fun b hb => ⟨(h4 b hb).1.1, (h4 b hb).1.2⟩, fun b hb o ho => ?_⟩
  have := (h4 b hb).2
  rw [ho] at this
  simp only [Option.map_some, Option.getD_some, Array.any_eq_true'] at this
  obtain ⟨e, he, h5⟩ := this
  simp only [Bool.and_eq_true, beq_iff_eq] at h5
  exact ⟨e, he, h5.1, h5.2⟩

theorem slot_ne {bs : List BoxD} (h : (bs.map (·.slot)).Nodup) {b c : BoxD} (hb : b ∈ bs) (hc : c ∈ bs) (hne : b ≠ c) : b.slot ≠ c.slot := by
  intro e
  induction bs with
  | nil => cases hb
  | cons x xs ih =>
    simp only [List.map_cons, List.nodup_cons, List.mem_map, not_exists, not_and] at h
    rcases List.mem_cons.1 hb with rfl | hb'
    · rcases List.mem_cons.1 hc with rfl | hc'
      · exact hne rfl
      · exact h.1 c hc' e.symm
    · rcases List.mem_cons.1 hc with rfl | hc'
      · exact h.1 b hb' e
      · exact ih h.2 hb' hc'
theorem al_ne {bs : List BoxD} (h : (bs.map (·.al) ++ bs.map (·.st)).Nodup) {b c : BoxD} (hb : b ∈ bs) (hc : c ∈ bs) : b.al ≠ c.st :=
  fun e => (List.nodup_append.1 h).2.2 _ (List.mem_map.2 ⟨b, hb, rfl⟩) _ (List.mem_map.2 ⟨c, hc, rfl⟩) e
theorem al_inj {bs : List BoxD} {f : BoxD → Nat} (h : (bs.map f).Nodup) {b c : BoxD} (hb : b ∈ bs) (hc : c ∈ bs) (e : f b = f c) : b = c := by
  induction bs with
  | nil => cases hb
  | cons x xs ih =>
    simp only [List.map_cons, List.nodup_cons, List.mem_map, not_exists, not_and] at h
    rcases List.mem_cons.1 hb with rfl | hb'
    · rcases List.mem_cons.1 hc with rfl | hc'
      · rfl
      · exact absurd e.symm (h.1 c hc')
    · rcases List.mem_cons.1 hc with rfl | hc'
      · exact absurd e (h.1 b hb')
      · exact ih h.2 hb' hc'

def ptrTo (b : Nat) : Value := .pointer (some ⟨b, 0, none⟩)

/-- what holds of the boxes when the operations 'listed' have come up -/
def Boxes (bs : List BoxD) (G : BoxD → Array Value → World → Prop) (n0 : Nat) (listed : Array Bool) (a : Act) (w : World) : Prop :=
  ∃ B : Nat → Nat,
    (∀ b ∈ bs, listed.getD b.al false = true → a.tmps[b.slot]? = some (ptrTo (B b.slot)) ∧ n0 ≤ B b.slot ∧ ∃ cs, Bx w (B b.slot) cs b.ty ∧ (listed.getD b.st false = false → cs = b.z) ∧ (listed.getD b.st false = true → G b cs w)) ∧
    (∀ b ∈ bs, ∀ c ∈ bs, listed.getD b.al false = true → listed.getD c.al false = true → b ≠ c → B b.slot ≠ B c.slot)

theorem getD_set_self {l : Array Bool} {i : Nat} (h : l.getD i true = false) : (l.setIfInBounds i true).getD i false = true := by
  obtain ⟨hi, _⟩ := getD_lt h
  simp [Array.getD, hi]
theorem getD_false_of {l : Array Bool} {i : Nat} (h : l.getD i true = false) : l.getD i false = false := by
  obtain ⟨hi, he⟩ := getD_lt h
  simp [Array.getD, hi, he]

section
variable {P : Program} {ops : Array Oper} {Q : Exit → Act → World → Prop} {S : World → Prop}

/-- THE RULE: J speaks of the other operations; G of what a box holds when its store has come up. From any state on in which no box has come up. -/
theorem wpAnyH_boxes {a0 : Act} {w0 : World} {listed0 : Array Bool} {fuel : Nat} (bs : List BoxD) (hB : boxesB ops bs = true)
    (J : Array Bool → Act → World → Prop) (G : BoxD → Array Value → World → Prop) (n0 : Nat) (hn0 : n0 ≤ w0.heap.size) (hls : listed0.size = ops.size) (hfu : unl listed0 ≤ fuel)
    (hl0 : ∀ b ∈ bs, listed0.getD b.al false = false ∧ listed0.getD b.st false = false)
    (hsl : ∀ b ∈ bs, b.slot < a0.tmps.size)
    (hG : ∀ b ∈ bs, ∀ cs w w', G b cs w → Below w.heap.size w w' → G b cs w')
    (h0 : J listed0 a0 w0) (hJS : ∀ listed a w, J listed a w → S w)
    (hal : ∀ b ∈ bs, ∀ a w K, K (a.put (some b.slot) (ptrTo w.heap.size)) (w.alloc (.cells b.z b.ty)) → wpOp P ops Q b.al K a w)
    (hJal : ∀ b ∈ bs, ∀ listed a w, J listed a w → n0 ≤ w.heap.size → listed.getD b.al true = false → J (listed.setIfInBounds b.al true) (a.put (some b.slot) (ptrTo w.heap.size)) (w.alloc (.cells b.z b.ty)))
    (hst : ∀ b ∈ bs, ∀ listed a w B K o, ops[b.st]? = some o → listed.getD b.st true = false → (∀ e ∈ o.after, Region.binds .any e = true → listed.getD e.on false = true) → J listed a w → a.tmps[b.slot]? = some (ptrTo B) → n0 ≤ B → Bx w B b.z b.ty →
      (∀ w' cs, Bx w' B cs b.ty → (∀ c, c ≠ B → w'.heap[c]? = w.heap[c]?) → w'.heap.size = w.heap.size → (∀ c ∈ bs, ∀ cs', G c cs' w → G c cs' w') → G b cs w' → J (listed.setIfInBounds b.st true) a w' → K a w') → wpOp P ops Q b.st K a w)
    (hot : ∀ (listed : Array Bool) a w i o, ops[i]? = some o → (∀ b ∈ bs, b.al ≠ i ∧ b.st ≠ i) → listed.getD i true = false → (∀ e ∈ o.after, Region.binds .any e = true → listed.getD e.on false = true) → J listed a w →
      wpOp P ops Q i (fun a' w' => J (listed.setIfInBounds i true) a' w' ∧ Below w.heap.size w w' ∧ (∀ b ∈ bs, a'.tmps[b.slot]? = a.tmps[b.slot]?) ∧ a'.tmps.size = a.tmps.size) a w)
    (hend : ∀ (listed : Array Bool) a w (B : Nat → Nat), (∀ i, i < ops.size → listed.getD i false = true) → J listed a w → a.tmps.size = a0.tmps.size → (∀ b ∈ bs, a.tmps[b.slot]? = some (ptrTo (B b.slot)) ∧ n0 ≤ B b.slot ∧ ∃ cs, Bx w (B b.slot) cs b.ty ∧ G b cs w) → (∀ b ∈ bs, ∀ c ∈ bs, b ≠ c → B b.slot ≠ B c.slot) → Q .normal a w) :
    wpAnyH P .any ops Q S fuel listed0 a0 w0 := by
  have sp := boxesB_spec hB
  have hst1 : (bs.map (·.al)).Nodup := (List.nodup_append.1 sp.nums).1
  have hst2 : (bs.map (·.st)).Nodup := (List.nodup_append.1 sp.nums).2.1
  refine wpAnyH_inv (fun listed a w => J listed a w ∧ a.tmps.size = a0.tmps.size ∧ Boxes bs G n0 listed a w ∧ n0 ≤ w.heap.size ∧ ((∀ b ∈ bs, listed.getD b.st false = true → listed.getD b.al false = true))) sp.ord (fun _ _ _ h => hJS _ _ _ h.1)
    ?_ ?_ fuel listed0 a0 w0 hls hfu ⟨h0, rfl, ⟨fun _ => 0, fun b hb h => ?_, fun b hb c hc h => ?_⟩, hn0, fun b hb h => ?_⟩
  rotate_left 2
  · rw [(hl0 b hb).1] at h; cases h
  · rw [(hl0 b hb).1] at h; cases h
  · rw [(hl0 b hb).2] at h; cases h
  · rintro listed a w i o hs ho hi hp ⟨hJ, hsz, ⟨B, hb1, hb2⟩, hn, hsa⟩
    by_cases hA : ∃ b ∈ bs, b.al = i
    · obtain ⟨b, hb, rfl⟩ := hA
      refine hal b hb a w _ ⟨hJal b hb listed a w hJ hn hi, ?_, ⟨fun s => if s = b.slot then w.heap.size else B s, ?_, ?_⟩, ?_, ?_⟩
      · simp [Act.put, hsz]
      · intro c hc hl
        have hb' : b.slot < a.tmps.size := by rw [hsz]; exact hsl b hb
        rw [act_put_get hb']
        by_cases e : b = c
        · subst e
          refine ⟨by simp, by simpa using hn, b.z, by simpa using Bx.new w b.z b.ty, fun _ => rfl, fun h => ?_⟩
          rw [getD_set_ne false (al_ne sp.nums hb hb)] at h
          have := hsa b hb h
          rw [getD_false_of hi] at this; cases this
        · have hne := slot_ne sp.slots hb hc e
          rw [getD_set_ne false (fun e' => e (al_inj hst1 hb hc e'))] at hl
          obtain ⟨h1, h2, cs, h3, h4, h5⟩ := hb1 c hc hl
          rw [getD_set_ne false (al_ne sp.nums hb hc)]
          refine ⟨by simp only [if_neg hne, if_neg (Ne.symm hne)]; exact h1, by simp only [if_neg (Ne.symm hne)]; exact h2, cs, by simp only [if_neg (Ne.symm hne)]; exact h3.alloc _, h4, fun h => hG c hc cs _ _ (h5 h) ((Below.refl _ _).alloc (Nat.le_refl _) _)⟩
      · intro c hc d hd hlc hld hcd
        have key : ∀ c ∈ bs, c ≠ b → (listed.setIfInBounds b.al true).getD c.al false = true → B c.slot < w.heap.size := fun c hc hne hl => by
          rw [getD_set_ne false (fun e' => hne (al_inj hst1 hc hb e'.symm))] at hl
          obtain ⟨_, _, cs, h3, _⟩ := hb1 c hc hl
          exact h3.lt
        by_cases ec : c = b
        · subst ec
          have hne := slot_ne sp.slots hc hd hcd
          simp only [if_true, if_neg (Ne.symm hne)]
          exact Nat.ne_of_gt (key d hd (Ne.symm hcd) hld)
        · by_cases ed : d = b
          · subst ed
            have hne := slot_ne sp.slots hc hd hcd
            simp only [if_true, if_neg hne]
            exact Nat.ne_of_lt (key c hc hcd hlc)
          · simp only [if_neg (slot_ne sp.slots hc hb ec), if_neg (slot_ne sp.slots hd hb ed)]
            rw [getD_set_ne false (fun e' => ec (al_inj hst1 hc hb e'.symm))] at hlc
            rw [getD_set_ne false (fun e' => ed (al_inj hst1 hd hb e'.symm))] at hld
            exact hb2 c hc d hd hlc hld hcd
      · simp; omega
      · intro c hc hl
        by_cases e : c = b
        · subst e; exact getD_set_self hi
        · rw [getD_set_ne false (al_ne sp.nums hb hc)] at hl
          rw [getD_set_ne false (fun e' => e (al_inj hst1 hc hb e'.symm))]
          exact hsa c hc hl
    · by_cases hS : ∃ b ∈ bs, b.st = i
      · obtain ⟨b, hb, rfl⟩ := hS
        obtain ⟨e, he, hbi, heq⟩ := sp.pre b hb o ho
        have hla : listed.getD b.al false = true := heq ▸ hp e he hbi
        obtain ⟨h1, h2, cs, h3, h4, _⟩ := hb1 b hb hla
        have hz : cs = b.z := h4 (getD_false_of hi)
        subst hz
        refine hst b hb listed a w (B b.slot) _ o ho hi hp hJ h1 h2 h3 ?_
        intro w' cs' k1 k2 k3 k4 k5 kJ
        refine ⟨kJ, hsz, ⟨B, ?_, ?_⟩, by omega, ?_⟩
        · intro c hc hl
          rw [getD_set_ne false (Ne.symm (al_ne sp.nums hc hb))] at hl
          by_cases e : c = b
          · subst e
            refine ⟨h1, h2, cs', k1, fun h => ?_, fun _ => k5⟩
            rw [getD_set_self hi] at h; cases h
          · obtain ⟨m1, m2, ds, m3, m4, m5⟩ := hb1 c hc hl
            have hne := hb2 c hc b hb hl hla e
            rw [getD_set_ne false (fun e' => e (al_inj hst2 hc hb e'.symm))]
            exact ⟨m1, m2, ds, (k2 _ hne).trans m3, m4, fun h => k4 c hc ds (m5 h)⟩
        · intro c hc d hd hlc hld hcd
          rw [getD_set_ne false (Ne.symm (al_ne sp.nums hc hb))] at hlc
          rw [getD_set_ne false (Ne.symm (al_ne sp.nums hd hb))] at hld
          exact hb2 c hc d hd hlc hld hcd
        · intro c hc hl
          rw [getD_set_ne false (Ne.symm (al_ne sp.nums hc hb))]
          by_cases e : c = b
          · subst e; exact hla
          · rw [getD_set_ne false (fun e' => e (al_inj hst2 hc hb e'.symm))] at hl
            exact hsa c hc hl
      · have hno : ∀ b ∈ bs, b.al ≠ i ∧ b.st ≠ i := fun b hb => ⟨fun e => hA ⟨b, hb, e⟩, fun e => hS ⟨b, hb, e⟩⟩
        refine wpOp_mono ?_ (hot listed a w i o ho hno hi hp hJ)
        rintro a' w' ⟨kJ, kb, kt, ks⟩
        refine ⟨kJ, by omega, ⟨B, ?_, ?_⟩, Nat.le_trans hn kb.size, ?_⟩
        · intro c hc hl
          rw [getD_set_ne false (Ne.symm (hno c hc).1)] at hl
          obtain ⟨m1, m2, ds, m3, m4, m5⟩ := hb1 c hc hl
          rw [getD_set_ne false (Ne.symm (hno c hc).2)]
          exact ⟨(kt c hc).trans m1, m2, ds, m3.below kb (Nat.le_refl _), m4, fun h => hG c hc ds _ _ (m5 h) kb⟩
        · intro c hc d hd hlc hld hcd
          rw [getD_set_ne false (Ne.symm (hno c hc).1)] at hlc
          rw [getD_set_ne false (Ne.symm (hno d hd).1)] at hld
          exact hb2 c hc d hd hlc hld hcd
        · intro c hc hl
          rw [getD_set_ne false (Ne.symm (hno c hc).2)] at hl
          rw [getD_set_ne false (Ne.symm (hno c hc).1)]
          exact hsa c hc hl
  · rintro listed a w hall ⟨hJ, hsz, ⟨B, hb1, hb2⟩, hn, hsa⟩
    refine hend listed a w B hall hJ hsz (fun b hb => ?_) (fun b hb c hc => hb2 b hb c hc (hall _ (sp.lt b hb).1) (hall _ (sp.lt c hc).1))
    obtain ⟨h1, h2, cs, h3, h4, h5⟩ := hb1 b hb (hall _ (sp.lt b hb).1)
    exact ⟨h1, h2, cs, h3, h5 (hall _ (sp.lt b hb).2)⟩

theorem fold_put {bs : List BoxD} {B : Nat → Nat} : ∀ {a0 : Act}, (∀ b ∈ bs, b.slot < a0.tmps.size) →
    (bs.foldl (fun a b => a.put (some b.slot) (ptrTo (B b.slot))) a0).defers = a0.defers ∧ (bs.foldl (fun a b => a.put (some b.slot) (ptrTo (B b.slot))) a0).tmps.size = a0.tmps.size ∧
    ∀ t, (bs.foldl (fun a b => a.put (some b.slot) (ptrTo (B b.slot))) a0).tmps[t]? = if t ∈ bs.map (·.slot) then some (ptrTo (B t)) else a0.tmps[t]? := by
  induction bs with
  | nil => intro a0 _; exact ⟨rfl, rfl, fun t => by simp⟩
  | cons x xs ih =>
    intro a0 h
    have hx := h x (by simp)
    have hs : (a0.put (some x.slot) (ptrTo (B x.slot))).tmps.size = a0.tmps.size := by simp [Act.put]
    obtain ⟨h1, h2, h3⟩ := ih (a0 := a0.put (some x.slot) (ptrTo (B x.slot))) (fun b hb => by rw [hs]; exact h b (List.mem_cons_of_mem _ hb))
    simp only [List.foldl_cons]
    refine ⟨h1.trans rfl, h2.trans hs, fun t => ?_⟩
    rw [h3 t, act_put_get hx]
    simp only [List.map_cons, List.mem_cons]
    by_cases e : t ∈ xs.map (·.slot)
    · simp [e]
    · by_cases e2 : x.slot = t
      · subst e2; simp [e]
      · simp [e, e2, Ne.symm e2]

/-- variables alone: the values of the stores are known in the frame with which one begins -/
theorem wpAnyH_vars {a0 : Act} {w0 : World} {listed0 : Array Bool} {fuel : Nat} (bs : List BoxD) (V : BoxD → Array Value) (hB : boxesB ops bs = true) (hls : listed0.size = ops.size) (hfu : unl listed0 ≤ fuel)
    (hl0 : ∀ b ∈ bs, listed0.getD b.al false = false ∧ listed0.getD b.st false = false)
    (hrest : ∀ i, i < ops.size → listed0.getD i true = false → ∃ b ∈ bs, b.al = i ∨ b.st = i)
    (hsl : ∀ b ∈ bs, b.slot < a0.tmps.size) (hS : ∀ w, Below w0.heap.size w0 w → S w)
    (hal : ∀ b ∈ bs, ∀ a w K, K (a.put (some b.slot) (ptrTo w.heap.size)) (w.alloc (.cells b.z b.ty)) → wpOp P ops Q b.al K a w)
    (hst : ∀ b ∈ bs, ∀ (a : Act) (w : World) (B : Nat) K, (∀ t, (∀ c ∈ bs, c.slot ≠ t) → a.tmps[t]? = a0.tmps[t]?) → a.tmps[b.slot]? = some (ptrTo B) → Bx w B b.z b.ty →
      (∀ w', Bx w' B (V b) b.ty → (∀ c, c ≠ B → w'.heap[c]? = w.heap[c]?) → w'.heap.size = w.heap.size → (∀ n, n ≤ B → Below n w w') → K a w') → wpOp P ops Q b.st K a w)
    (hend : ∀ w (B : Nat → Nat), Below w0.heap.size w0 w → (∀ b ∈ bs, w0.heap.size ≤ B b.slot ∧ Bx w (B b.slot) (V b) b.ty) → (∀ b ∈ bs, ∀ c ∈ bs, b ≠ c → B b.slot ≠ B c.slot) → Q .normal (bs.foldl (fun a b => a.put (some b.slot) (ptrTo (B b.slot))) a0) w) :
    wpAnyH P .any ops Q S fuel listed0 a0 w0 := by
  refine wpAnyH_boxes bs hB (fun listed a w => (∀ i, listed0.getD i true = true → listed.getD i true = true) ∧ Below w0.heap.size w0 w ∧ a.defers = a0.defers ∧ ∀ t, (∀ c ∈ bs, c.slot ≠ t) → a.tmps[t]? = a0.tmps[t]?)
    (fun b cs _ => cs = V b) w0.heap.size (Nat.le_refl _) hls hfu hl0 hsl (fun _ _ _ _ _ h _ => h) ⟨fun _ h => h, Below.refl _ _, rfl, fun _ _ => rfl⟩ (fun _ _ _ h => hS _ h.2.1) hal ?_ ?_ ?_ ?_
  · rintro b hb listed a w ⟨j1, j2, j3, j4⟩ hn hi
    refine ⟨fun i h => ?_, j2.alloc j2.size _, j3, fun t ht => ?_⟩
    · by_cases e : b.al = i
      · subst e; have := j1 _ h; rw [hi] at this; cases this
      · rw [getD_set_ne true e]; exact j1 i h
    · show (a.tmps.setIfInBounds b.slot _)[t]? = _
      rw [Array.getElem?_setIfInBounds_ne (ht b hb)]; exact j4 t ht
  · rintro b hb listed a w B K o ho hi hp ⟨j1, j2, j3, j4⟩ hs hn hbx hK
    refine hst b hb a w B K j4 hs hbx (fun w' k1 k2 k3 k4 => hK w' _ k1 k2 k3 (fun _ _ _ h => h) rfl ⟨fun i h => ?_, j2.trans (k4 _ hn), j3, j4⟩)
    by_cases e : b.st = i
    · subst e; have := j1 _ h; rw [hi] at this; cases this
    · rw [getD_set_ne true e]; exact j1 i h
  · rintro listed a w i o ho hno hi hp ⟨j1, _⟩
    exfalso
    obtain ⟨hlt, _⟩ := Array.getElem?_eq_some_iff.1 ho
    cases hq : listed0.getD i true with
    | true => have := j1 i hq; rw [hi] at this; cases this
    | false =>
      obtain ⟨b, hb, h | h⟩ := hrest i hlt hq
      · exact (hno b hb).1 h
      · exact (hno b hb).2 h
  · rintro listed a w B hall ⟨j1, j2, j3, j4⟩ hsz hb hd
    have hf := fold_put (bs := bs) (B := B) (a0 := a0) hsl
    have ha : a = bs.foldl (fun a b => a.put (some b.slot) (ptrTo (B b.slot))) a0 := by
      have ht : a.tmps = (bs.foldl (fun a b => a.put (some b.slot) (ptrTo (B b.slot))) a0).tmps := by
        apply Array.ext_getElem?
        intro t
        rw [hf.2.2 t]
        by_cases e : t ∈ bs.map (·.slot)
        · rw [if_pos e]
          obtain ⟨b, hbm, rfl⟩ := List.mem_map.1 e
          exact (hb b hbm).1
        · rw [if_neg e]
          exact j4 t (fun c hc h => e (List.mem_map.2 ⟨c, hc, h⟩))
      have hdf := j3.trans hf.1.symm
      revert ht hdf
      cases a
      generalize bs.foldl (fun a b => a.put (some b.slot) (ptrTo (B b.slot))) a0 = a1
      cases a1
      intro ht hdf
      simp only at ht hdf
      subst ht hdf
      rfl
    rw [ha]
    exact hend w B j2 (fun b hbm => by obtain ⟨_, h2, cs, h3, h4⟩ := hb b hbm; exact ⟨h2, h4 ▸ h3⟩) hd

/-- of each in a list -/
def AllB (p : BoxD → Prop) : List BoxD → Prop
  | [] => True
  | b :: bs => p b ∧ AllB p bs
theorem AllB.mem {p : BoxD → Prop} : ∀ {bs : List BoxD}, AllB p bs → ∀ b ∈ bs, p b
  | b :: bs, h, c, hc => by
    rcases List.mem_cons.1 hc with rfl | hc
    · exact h.1
    · exact AllB.mem h.2 c hc
/-- stores into a block's cells k, k+1 .. -/
def setAll (w : World) (B : Nat) : Nat → List Value → World
  | _, [] => w
  | k, v :: vs => setAll (w.setCell ⟨B, k, none⟩ v) B (k + 1) vs
theorem setAll_facts {B : Nat} {t : TypeId} : ∀ (vs : List Value) (k : Nat) (w : World) (pre post : List Value), pre.length = k → post.length = vs.length → Bx w B (pre ++ post).toArray t →
    Bx (setAll w B k vs) B (pre ++ vs).toArray t ∧ (∀ c, c ≠ B → (setAll w B k vs).heap[c]? = w.heap[c]?) ∧ (setAll w B k vs).heap.size = w.heap.size ∧ ∀ n, n ≤ B → Below n w (setAll w B k vs)
  | [], k, w, pre, post, hk, hp, hb => by
    have : post = [] := by simpa using hp
    subst this
    exact ⟨hb, fun _ _ => rfl, rfl, fun _ _ => Below.refl _ _⟩
  | v :: vs, k, w, pre, [], hk, hp, hb => by simp at hp
  | v :: vs, k, w, pre, z :: post, hk, hp, hb => by
    have h1 := hb.set k v
    have e : ((pre ++ z :: post).toArray.setIfInBounds k v) = ((pre ++ [v]) ++ post).toArray := by
      subst hk
      simp
    rw [e] at h1
    obtain ⟨i1, i2, i3, i4⟩ := setAll_facts vs (k + 1) (w.setCell ⟨B, k, none⟩ v) (pre ++ [v]) post (by simp [hk]) (by simpa using hp) h1
    refine ⟨by simpa [setAll] using i1, fun c hc => ?_, ?_, fun n hn => ?_⟩
    · exact (i2 c hc).trans (heap_setCell_other w ⟨B, k, none⟩ c v hc)
    · refine i3.trans ?_
      simp [World.setCell]
    · exact ((Below.refl n w).setCell (p := ⟨B, k, none⟩) hn v).trans (i4 n hn)

theorem wpAnyH_locals {a0 : Act} {w0 : World} {listed0 : Array Bool} {fuel : Nat} (bs : List BoxD) (hB : boxesB ops bs = true) (hls : listed0.size = ops.size) (hfu : unl listed0 ≤ fuel)
    (hl0 : (bs.all fun b => !listed0.getD b.al false && !listed0.getD b.st false && decide (b.slot < a0.tmps.size) && decide (b.z.size = b.v.length)) = true)
    (hrest : ((List.range ops.size).all fun i => listed0.getD i true || bs.any fun b => b.al == i || b.st == i) = true)
    (hS : ∀ w, Below w0.heap.size w0 w → S w)
    (hal : AllB (fun b => ∀ a w K, K (a.put (some b.slot) (ptrTo w.heap.size)) (w.alloc (.cells b.z b.ty)) → wpOp P ops Q b.al K a w) bs)
    (hst : AllB (fun b => ∀ (a : Act) (w : World) (B : Nat) K, (∀ t, (∀ c ∈ bs, c.slot ≠ t) → a.tmps[t]? = a0.tmps[t]?) → a.tmps[b.slot]? = some (ptrTo B) → Bx w B b.z b.ty → K a (setAll w B 0 b.v) → wpOp P ops Q b.st K a w) bs)
    (hend : ∀ w (B : Nat → Nat), Below w0.heap.size w0 w → AllB (fun b => w0.heap.size ≤ B b.slot ∧ Bx w (B b.slot) b.v.toArray b.ty) bs → (∀ b ∈ bs, ∀ c ∈ bs, b ≠ c → B b.slot ≠ B c.slot) → Q .normal (bs.foldl (fun a b => a.put (some b.slot) (ptrTo (B b.slot))) a0) w) :
    wpAnyH P .any ops Q S fuel listed0 a0 w0 := by
  simp only [List.all_eq_true, Bool.and_eq_true, Bool.not_eq_true', decide_eq_true_eq] at hl0
  refine wpAnyH_vars bs (fun b => b.v.toArray) hB hls hfu (fun b hb => ⟨(hl0 b hb).1.1.1, (hl0 b hb).1.1.2⟩) ?_ (fun b hb => (hl0 b hb).1.2) hS hal.mem ?_ ?_
  · intro i hi h
    rw [List.all_eq_true] at hrest
    have := hrest i (List.mem_range.2 hi)
    rw [h, Bool.false_or, List.any_eq_true] at this
    obtain ⟨b, hb, h2⟩ := this
    simp only [Bool.or_eq_true, beq_iff_eq] at h2
    exact ⟨b, hb, h2⟩
  · intro b hb a w B K h1 h2 h3 h4
    have hf := setAll_facts (B := B) (t := b.ty) b.v 0 w [] b.z.toList rfl (by simpa using (hl0 b hb).2) (by simpa using h3)
    exact hst.mem b hb a w B K h1 h2 h3 (h4 _ (by simpa using hf.1) hf.2.1 hf.2.2.1 hf.2.2.2)
  · intro w B h1 h2 h3
    refine hend w B h1 ?_ h3
    clear hl0 hrest hal hst hfu hls hB h3 hend
    induction bs with
    | nil => trivial
    | cons b bs ih => exact ⟨h2 b (by simp), ih (fun c hc => h2 c (List.mem_cons_of_mem _ hc))⟩
end
end Go.Proofs.YtjdiilkljgljkaaGreatDoor
namespace Go.Proofs.YtjdiilkljgljkaaGreatDoor
set_option linter.unusedVariables false
set_option linter.unusedSimpArgs false
namespace Dd
/-- a digit -/
def IsW (a : Int) : Prop := 0 ≤ a ∧ a < 65536
def lo (x : Int) : Int := x % 65536
def hi (x : Int) : Int := x / 65536 % 65536
def bor (x y c : Int) : Int := if x < y + c then 1 else 0
def msk (b : Bool) : Int := if b then 65535 else 0
theorem isW_lt_mul {a b : Int} (ha : IsW a) (hb : IsW b) : 0 ≤ a * b ∧ a * b ≤ 65535 * 65535 := by
  unfold IsW at *
  exact ⟨Int.mul_nonneg ha.1 hb.1, Int.mul_le_mul (by omega) (by omega) hb.1 (by omega)⟩

/-- 65536^i -/
def S (i : Nat) : Int := 65536 ^ i
/-- what is above the first i limbs -/
def qt (x : Int) (i : Nat) : Int := x / S i
/-- limb i of x -/
def lmb (x : Int) (i : Nat) : Int := qt x i % 65536
/-- x fits into n limbs -/
def Fit (n : Nat) (x : Int) : Prop := -S n ≤ 2 * x ∧ 2 * x < S n

theorem S_zero : S 0 = 1 := rfl
theorem S_succ (i : Nat) : S (i + 1) = S i * 65536 := Int.pow_succ _ _
theorem S_pos (i : Nat) : 0 < S i := by
  induction i with
  | zero => rw [S_zero]; omega
  | succ n ih => rw [S_succ]; omega
theorem S_add (i j : Nat) : S (i + j) = S i * S j := Int.pow_add _ _ _
theorem S_le {i j : Nat} (h : i ≤ j) : S i ≤ S j := by
  induction j with
  | zero => rw [show i = 0 from by omega]; exact Int.le_refl _
  | succ n ih =>
    by_cases hi : i ≤ n
    · have := ih hi; have := S_pos n; rw [S_succ]; omega
    · rw [show i = n + 1 from by omega]; exact Int.le_refl _
theorem qt_zero (x : Int) : qt x 0 = x := by unfold qt; rw [S_zero, Int.ediv_one]
theorem qt_succ (x : Int) (i : Nat) : qt x (i + 1) = qt x i / 65536 := by
  unfold qt; rw [S_succ, Int.ediv_ediv_of_nonneg (Int.le_of_lt (S_pos i))]
theorem qt_add_mul (x t : Int) (i : Nat) : qt (x + t * S i) i = qt x i + t := by
  unfold qt; exact Int.add_mul_ediv_right x t (Int.ne_of_gt (S_pos i))
theorem qt_add (x : Int) (i j : Nat) : qt x (i + j) = qt (qt x i) j := by
  unfold qt; rw [S_add, Int.ediv_ediv_of_nonneg (Int.le_of_lt (S_pos i))]
theorem isW_lmb (x : Int) (i : Nat) : IsW (lmb x i) := by unfold IsW lmb; omega
theorem lmb_zero (i : Nat) : lmb 0 i = 0 := by simp [lmb, qt]
theorem lmb_cong (x t : Int) {n i : Nat} (h : i < n) : lmb (x + t * S n) i = lmb x i := by
  obtain ⟨k, rfl⟩ : ∃ k, n = i + (k + 1) := ⟨n - i - 1, by omega⟩
  have e : t * S (i + (k + 1)) = (t * S k * 65536) * S i := by
    rw [S_add, S_succ, Int.mul_comm (S i), ← Int.mul_assoc, ← Int.mul_assoc]
  unfold lmb
  rw [e, qt_add_mul]
  omega
theorem fit_qt {n : Nat} {x : Int} (h : Fit n x) {i : Nat} (hi : n ≤ i) : qt x i = if x < 0 then -1 else 0 := by
  have h1 := S_pos n
  have h2 := S_le hi
  have h3 := S_pos i
  unfold Fit at h
  unfold qt
  split
  · exact (Int.ediv_eq_iff_of_pos h3).2 ⟨by omega, by omega⟩
  · exact Int.ediv_eq_zero_of_lt (by omega) (by omega)
theorem lmb_fill {n : Nat} {x : Int} (h : Fit n x) {i : Nat} (hi : n ≤ i) : lmb x i = msk (decide (x < 0)) := by
  unfold lmb msk
  rw [fit_qt h hi]
  by_cases h0 : x < 0 <;> simp [h0]
theorem fit_top {n : Nat} {x : Int} (h : Fit (n + 1) x) : -32768 ≤ qt x n ∧ qt x n < 32768 := by
  have h1 := S_pos n
  unfold Fit at h
  rw [S_succ] at h
  unfold qt
  constructor
  · exact Int.le_ediv_of_mul_le h1 (by omega)
  · exact Int.ediv_lt_of_lt_mul h1 (by omega)
theorem qt_neg {x : Int} {n : Nat} : qt x n < 0 ↔ x < 0 := by
  have h1 := S_pos n
  unfold qt
  constructor
  · intro h
    rcases (by omega : x < 0 ∨ 0 ≤ x) with h0 | h0
    · exact h0
    · have := Int.ediv_nonneg h0 (Int.le_of_lt h1); omega
  · intro h; exact Int.ediv_neg_of_neg_of_pos h h1
theorem top_neg {n : Nat} {x : Int} (h : Fit (n + 1) x) : 32768 ≤ lmb x n ↔ x < 0 := by
  have h1 := fit_top h
  have h2 := qt_neg (x := x) (n := n)
  unfold lmb
  omega

/-! sums and differences -/
def car (x y : Int) (i : Nat) : Int := qt (x + y) i - qt x i - qt y i
theorem car_zero (x y : Int) : car x y 0 = 0 := by unfold car; rw [qt_zero, qt_zero, qt_zero]; omega
theorem car_le (x y : Int) (i : Nat) : 0 ≤ car x y i ∧ car x y i ≤ 1 := by
  induction i with
  | zero => rw [car_zero]; omega
  | succ n ih => unfold car at *; rw [qt_succ, qt_succ, qt_succ]; omega
theorem add_step (x y : Int) (i : Nat) : lo (lmb x i + lmb y i + car x y i % 2) = lmb (x + y) i ∧ (lmb x i + lmb y i + car x y i % 2) / 65536 = car x y (i + 1) := by
  have h := car_le x y i
  have e : car x y (i + 1) = qt (x + y) i / 65536 - qt x i / 65536 - qt y i / 65536 := by unfold car; rw [qt_succ, qt_succ, qt_succ]
  rw [e]
  unfold car at h
  unfold lo lmb car
  omega
def brw (x y : Int) (i : Nat) : Int := qt x i - qt y i - qt (x - y) i
theorem brw_zero (x y : Int) : brw x y 0 = 0 := by unfold brw; rw [qt_zero, qt_zero, qt_zero]; omega
theorem brw_le (x y : Int) (i : Nat) : 0 ≤ brw x y i ∧ brw x y i ≤ 1 := by
  induction i with
  | zero => rw [brw_zero]; omega
  | succ n ih => unfold brw at *; rw [qt_succ, qt_succ, qt_succ]; omega
theorem sub_step (x y : Int) (i : Nat) : lo (lmb x i - lmb y i - brw x y i % 2) = lmb (x - y) i ∧ bor (lmb x i) (lmb y i) (brw x y i % 2) = brw x y (i + 1) := by
  have h := brw_le x y i
  have e : brw x y (i + 1) = qt x i / 65536 - qt y i / 65536 - qt (x - y) i / 65536 := by unfold brw; rw [qt_succ, qt_succ, qt_succ]
  rw [e]
  unfold brw at h
  unfold lo lmb bor brw
  refine ⟨by omega, ?_⟩
  split <;> omega
theorem isW_car (x y : Int) (i : Nat) : IsW (car x y i) := by have := car_le x y i; unfold IsW; omega
theorem isW_brw (x y : Int) (i : Nat) : IsW (brw x y i) := by have := brw_le x y i; unfold IsW; omega

/-! products -/
/-- x y, of x only the first i limbs -/
def prt (x y : Int) (i : Nat) : Int := (x - qt x i * S i) * y
theorem prt_zero (x y : Int) : prt x y 0 = 0 := by unfold prt; rw [qt_zero, S_zero, Int.mul_one, Int.sub_self, Int.zero_mul]
theorem prt_succ (x y : Int) (i : Nat) : prt x y (i + 1) = prt x y i + lmb x i * y * S i := by
  unfold prt lmb
  rw [qt_succ, S_succ]
  have e : qt x i = qt x i / 65536 * 65536 + qt x i % 65536 := by omega
  generalize qt x i / 65536 = u at *
  generalize qt x i % 65536 = v at *
  rw [e, Int.sub_mul, Int.sub_mul, Int.add_mul, Int.add_mul]
  have e1 : u * (S i * 65536) = u * 65536 * S i := by rw [Int.mul_assoc, Int.mul_comm (S i), ← Int.mul_assoc]
  have e2 : v * y * S i = v * S i * y := by rw [Int.mul_assoc, Int.mul_comm y, ← Int.mul_assoc]
  rw [e1, e2]
  omega
theorem prt_last (x y : Int) {n k : Nat} (h : k < n) : lmb (prt x y n) k = lmb (x * y) k := by
  have e : prt x y n = x * y + (-(qt x n * y)) * S n := by
    unfold prt; rw [Int.sub_mul, Int.neg_mul, Int.mul_assoc (qt x n), Int.mul_comm (S n), ← Int.mul_assoc]; omega
  rw [e, lmb_cong _ _ h]
/-- the carry within row i, at column j -/
def kar (x y : Int) (i j : Nat) : Int := qt (prt x y (i + 1)) (i + j) - qt (prt x y i) (i + j) - lmb x i * qt y j
theorem kar_zero (x y : Int) (i : Nat) : kar x y i 0 = 0 := by
  unfold kar; rw [prt_succ, Nat.add_zero, qt_add_mul, qt_zero]; omega
theorem mul_core {a p y k Q : Int} (ha : IsW a) (hk : IsW k) (hQ : Q - p - a * y = k) :
    lo (a * (y % 65536) + p % 65536 + k) = Q % 65536 ∧
    hi (a * (y % 65536) + p % 65536 + k) = Q / 65536 - p / 65536 - a * (y / 65536) ∧
    IsW (Q / 65536 - p / 65536 - a * (y / 65536)) := by
  have e : y = y / 65536 * 65536 + y % 65536 := by omega
  have hy : IsW (y % 65536) := by unfold IsW; omega
  have hp := isW_lt_mul ha hy
  have e2 : a * y = a * (y / 65536) * 65536 + a * (y % 65536) := by
    conv => lhs; rw [e]
    rw [Int.mul_add, Int.mul_assoc]
  rw [e2] at hQ
  generalize a * (y / 65536) = u at *
  generalize a * (y % 65536) = v at *
  unfold IsW lo hi at *
  omega
theorem kar_step (x y : Int) (i j : Nat) (hk : IsW (kar x y i j)) :
    lo (lmb x i * lmb y j + lmb (prt x y i) (i + j) + kar x y i j) = lmb (prt x y (i + 1)) (i + j) ∧
    hi (lmb x i * lmb y j + lmb (prt x y i) (i + j) + kar x y i j) = kar x y i (j + 1) ∧ IsW (kar x y i (j + 1)) := by
  have h := mul_core (a := lmb x i) (p := qt (prt x y i) (i + j)) (y := qt y j) (k := kar x y i j) (Q := qt (prt x y (i + 1)) (i + j)) (isW_lmb x i) hk rfl
  have e : kar x y i (j + 1) = qt (prt x y (i + 1)) (i + j) / 65536 - qt (prt x y i) (i + j) / 65536 - lmb x i * (qt y j / 65536) := by
    unfold kar; rw [← Nat.add_assoc, qt_succ, qt_succ, qt_succ]
  rw [e]
  exact h
theorem isW_kar (x y : Int) (i j : Nat) : IsW (kar x y i j) := by
  induction j with
  | zero => rw [kar_zero]; unfold IsW; omega
  | succ n ih => exact (kar_step x y i n ih).2.2
/-- a row that is shorter than x: limbs below i are final -/
theorem prt_low (x y : Int) {i k : Nat} (h : k < i) : lmb (prt x y (i + 1)) k = lmb (prt x y i) k := by
  rw [prt_succ, lmb_cong _ _ h]

/-! an integer is known by its limbs -/
theorem qt_eq_of_lmb {x y : Int} : ∀ {n : Nat}, (∀ i, i < n → lmb x i = lmb y i) → ∃ t, x - y = t * S n
  | 0, _ => ⟨x - y, by rw [S_zero]; omega⟩
  | n + 1, h => by
    obtain ⟨t, ht⟩ := qt_eq_of_lmb (n := n) (fun i hi => h i (by omega))
    have h1 := h n (by omega)
    have e : x = y + t * S n := by omega
    rw [e] at h1
    unfold lmb at h1
    rw [qt_add_mul] at h1
    refine ⟨t / 65536, ?_⟩
    rw [S_succ, Int.mul_comm (S n), ← Int.mul_assoc, show t / 65536 * 65536 = t from by omega]
    exact ht
theorem eq_of_lmb {x y : Int} {n : Nat} (hx : Fit n x) (hy : Fit n y) (h : ∀ i, i < n → lmb x i = lmb y i) : x = y := by
  obtain ⟨t, ht⟩ := qt_eq_of_lmb h
  have hS := S_pos n
  unfold Fit at hx hy
  rcases (by omega : t = 0 ∨ 1 ≤ t ∨ t ≤ -1) with h0 | h0 | h0
  · rw [h0] at ht; omega
  · have : 1 * S n ≤ t * S n := Int.mul_le_mul_of_nonneg_right h0 (Int.le_of_lt hS)
    omega
  · have : t * S n ≤ -1 * S n := Int.mul_le_mul_of_nonneg_right h0 (Int.le_of_lt hS)
    omega
theorem zero_of_lmb {x : Int} {n : Nat} (hx : Fit n x) (h : ∀ i, i < n → lmb x i = 0) : x = 0 :=
  eq_of_lmb hx (by have := S_pos n; unfold Fit; omega) (fun i hi => by rw [h i hi, lmb_zero])
/-- every row of words is the limbs of an integer that fits -/
theorem lmb_exists_nat (f : Nat → Int) : ∀ n, (∀ i, i < n → IsW (f i)) → ∃ x, 0 ≤ x ∧ x < S n ∧ ∀ i, i < n → lmb x i = f i
  | 0, _ => ⟨0, by omega, by rw [S_zero]; omega, fun i hi => absurd hi (by omega)⟩
  | n + 1, h => by
    obtain ⟨x, h0, h1, h2⟩ := lmb_exists_nat f n (fun i hi => h i (by omega))
    have hn := h n (by omega)
    have hS := S_pos n
    unfold IsW at hn
    have hm1 := Int.mul_nonneg hn.1 (Int.le_of_lt hS)
    have hm2 : f n * S n ≤ 65535 * S n := Int.mul_le_mul_of_nonneg_right (by omega) (Int.le_of_lt hS)
    refine ⟨x + f n * S n, by omega, by rw [S_succ]; omega, fun i hi => ?_⟩
    by_cases hin : i < n
    · rw [lmb_cong _ _ hin, h2 i hin]
    · obtain rfl : i = n := by omega
      unfold lmb
      rw [qt_add_mul]
      have : qt x i = 0 := Int.ediv_eq_zero_of_lt h0 h1
      rw [this]; omega
theorem lmb_exists (f : Nat → Int) (n : Nat) (h : ∀ i, i < n → IsW (f i)) : ∃ x, Fit n x ∧ ∀ i, i < n → lmb x i = f i := by
  obtain ⟨x, h0, h1, h2⟩ := lmb_exists_nat f n h
  have hS := S_pos n
  rcases (by omega : 2 * x < S n ∨ S n ≤ 2 * x) with hx | hx
  · exact ⟨x, ⟨by omega, hx⟩, h2⟩
  · refine ⟨x + -1 * S n, ⟨by omega, by omega⟩, fun i hi => by rw [lmb_cong _ _ hi, h2 i hi]⟩
theorem fit_mono {n m : Nat} {x : Int} (h : Fit n x) (hm : n ≤ m) : Fit m x := by
  have := S_le hm; unfold Fit at *; omega
end Dd
end Go.Proofs.YtjdiilkljgljkaaGreatDoor
