/- Plain arithmetic of 64-bit words, used by the walks of this claim: what additions with carries, products of two words and masks come to. No program in sight; no condition. -/
import Derived.Laws.BitsAllLaws
import Derived.Lib.Mul64
import Derived.WalkKit
namespace Go.Proofs.YtoikcgmdlccdbaaDoor
set_option linter.unusedVariables false
set_option linter.unusedSimpArgs false
namespace Wd
open Go.RowKit

/-- a word: 0 to 2^64 - 1 -/
def IsW (a : Int) : Prop := 0 ≤ a ∧ a < 18446744073709551616
/-- the low word -/
def lo (x : Int) : Int := x % 18446744073709551616
/-- the second word -/
def hi (x : Int) : Int := x / 18446744073709551616 % 18446744073709551616
/-- a mask -/
def msk (b : Bool) : Int := if b then 18446744073709551615 else 0

/-- a number, or 0 -/
def gate (m : Bool) (a : Int) : Int := if m then a else 0
/-- a borrow -/
def bor (x y c : Int) : Int := if x < y + c then 1 else 0

theorem isW_lo (x : Int) : IsW (lo x) := by unfold IsW lo; omega
theorem isW_hi (x : Int) : IsW (hi x) := by unfold IsW hi; omega
theorem isW_wrap (x : Int) : IsW (IntKind.u64.wrap x) := by rw [IntKind.wrap_u64]; unfold IsW; omega
theorem isW_msk (b : Bool) : IsW (msk b) := by unfold IsW msk; cases b <;> decide
theorem isW_of_wf {a : Int} (h : (Lit.int .u64 a).wf = true) : IsW a := by
  have hmin : IntKind.u64.min = 0 := rfl
  have hmax : IntKind.u64.max = 18446744073709551615 := rfl
  simp only [Lit.wf, Bool.and_eq_true, decide_eq_true_eq] at h
  unfold IsW; omega
/-- a signed word -/
def IsI (a : Int) : Prop := -9223372036854775808 ≤ a ∧ a ≤ 9223372036854775807
theorem isI_of_wf {a : Int} (h : (Lit.int .i64 a).wf = true) : IsI a := by
  have hmin : IntKind.i64.min = -9223372036854775808 := rfl
  have hmax : IntKind.i64.max = 9223372036854775807 := rfl
  simp only [Lit.wf, Bool.and_eq_true, decide_eq_true_eq] at h
  unfold IsI; omega

theorem wrapU (n : Int) : IntKind.u64.wrap n = lo n := IntKind.wrap_u64 n
theorem lo_in {n : Int} (h : IsW n) : lo n = n := by unfold IsW at h; unfold lo; omega

theorem and_one {c : Int} (h : IsW c) : bits .and .u64 c 1 = c % 2 := by
  unfold IsW at h
  rw [u64_and c 1 h.1 h.2 (by omega) (by omega)]
  show ((c.toNat &&& 1 : Nat) : Int) = _
  rw [Nat.and_one_is_mod]; omega

theorem msk_of {c : Int} (h : IsW c) : lo (-bits .and .u64 c 1) = msk (decide (c % 2 = 1)) := by
  rw [and_one h]; unfold lo msk; by_cases hc : c % 2 = 1 <;> simp [hc] <;> omega

theorem half_lt {a : Nat} (h : a < 18446744073709551616) : a / 9223372036854775808 % 2 = a / 9223372036854775808 := by omega
theorem testBit_63 (a : Nat) : a.testBit 63 = decide (a / 9223372036854775808 % 2 = 1) := Nat.testBit_eq_decide_div_mod_eq

/-- the highest bit of a natural number of one word, as a number -/
theorem hi_and {a b : Nat} (ha : a < 18446744073709551616) : (a &&& b) / 9223372036854775808 = 1 ↔ 9223372036854775808 ≤ a ∧ b / 9223372036854775808 % 2 = 1 := by
  have h : (a &&& b) ≤ a := Nat.and_le_left
  have e := Nat.testBit_and a b 63
  rw [testBit_63, testBit_63, testBit_63] at e
  have := half_lt (a := a &&& b) (by omega)
  have := half_lt ha
  constructor
  · intro h1
    have : decide ((a &&& b) / 9223372036854775808 % 2 = 1) = true := by simp; omega
    rw [this] at e; simp at e; omega
  · intro ⟨h1, h2⟩
    have : decide (a / 9223372036854775808 % 2 = 1) = true := by simp; omega
    rw [this] at e; simp [h2] at e; omega
theorem hi_or {a b : Nat} (ha : a < 18446744073709551616) (hb : b < 18446744073709551616) : (a ||| b) / 9223372036854775808 = 1 ↔ 9223372036854775808 ≤ a ∨ 9223372036854775808 ≤ b := by
  have h : a ||| b < 2 ^ 64 := Nat.or_lt_two_pow (by omega) (by omega)
  have e := Nat.testBit_or a b 63
  rw [testBit_63, testBit_63, testBit_63] at e
  have h1 := half_lt (a := a ||| b) (by omega)
  have h2 := half_lt ha
  have h3 := half_lt hb
  rw [h1, h2, h3] at e
  by_cases ca : 9223372036854775808 ≤ a <;> by_cases cb : 9223372036854775808 ≤ b <;> by_cases cc : (a ||| b) / 9223372036854775808 = 1 <;> simp [ca, cb, cc] at e ⊢ <;> omega
theorem hi_xor {a b : Nat} (ha : a < 18446744073709551616) (hb : b < 18446744073709551616) : (a ^^^ b) / 9223372036854775808 = 1 ↔ ¬ (9223372036854775808 ≤ a ↔ 9223372036854775808 ≤ b) := by
  have h : a ^^^ b < 2 ^ 64 := Nat.xor_lt_two_pow (by omega) (by omega)
  have e := Nat.testBit_xor a b 63
  rw [testBit_63, testBit_63, testBit_63] at e
  have h1 := half_lt (a := a ^^^ b) (by omega)
  have h2 := half_lt ha
  have h3 := half_lt hb
  rw [h1, h2, h3] at e
  by_cases ca : 9223372036854775808 ≤ a <;> by_cases cb : 9223372036854775808 ≤ b <;> by_cases cc : (a ^^^ b) / 9223372036854775808 = 1 <;> simp [ca, cb, cc] at e ⊢ <;> omega

/-- '^a' -/
theorem not_w {a : Int} (h : IsW a) : bits .xor .u64 IntKind.u64.max a = 18446744073709551615 - a := by
  rw [show IntKind.u64.max = 18446744073709551615 from rfl]
  unfold IsW at h
  obtain ⟨n, rfl⟩ := Int.eq_ofNat_of_zero_le h.1
  rw [show (18446744073709551615 : Int) = ((18446744073709551615 : Nat) : Int) from rfl, u64_xor_nat 18446744073709551615 n (by omega) (by omega)]
  have e : 18446744073709551615 ^^^ n = 18446744073709551615 - n := by
    have hn : n < 2 ^ 64 := by omega
    have := BitVec.toNat_not (x := BitVec.ofNat 64 n)
    rw [← BitVec.allOnes_xor, BitVec.toNat_xor] at this
    simpa [Nat.mod_eq_of_lt hn] using this
  rw [e]; omega
theorem and_w {a b : Int} (ha : IsW a) (hb : IsW b) : IsW (bits .and .u64 a b) := by
  unfold IsW at *
  rw [u64_and a b ha.1 ha.2 hb.1 hb.2]
  have : a.toNat &&& b.toNat ≤ a.toNat := Nat.and_le_left
  omega
theorem or_w {a b : Int} (ha : IsW a) (hb : IsW b) : IsW (bits .or .u64 a b) := by
  unfold IsW at *
  rw [u64_or a b ha.1 ha.2 hb.1 hb.2]
  have : a.toNat ||| b.toNat < 2 ^ 64 := Nat.or_lt_two_pow (by omega) (by omega)
  omega
theorem xor_w {a b : Int} (ha : IsW a) (hb : IsW b) : IsW (bits .xor .u64 a b) := by
  unfold IsW at *
  rw [u64_xor a b ha.1 ha.2 hb.1 hb.2]
  have : a.toNat ^^^ b.toNat < 2 ^ 64 := Nat.xor_lt_two_pow (by omega) (by omega)
  omega
theorem and_msk (m : Bool) {a : Int} (ha : IsW a) : bits .and .u64 (msk m) a = if m then a else 0 := by
  have hm := isW_msk m
  have ha' := ha
  unfold IsW at *
  rw [u64_and _ a hm.1 hm.2 ha.1 ha.2]
  obtain ⟨n, rfl⟩ := Int.eq_ofNat_of_zero_le ha.1
  cases m
  · simp [msk]
  · show ((18446744073709551615 &&& n : Nat) : Int) = _
    rw [Nat.and_comm, show (18446744073709551615 : Nat) = 2 ^ 64 - 1 from rfl, Nat.and_two_pow_sub_one_eq_mod]
    simp; omega
theorem xor_comm_w {a b : Int} (ha : IsW a) (hb : IsW b) : bits .xor .u64 a b = bits .xor .u64 b a := by
  unfold IsW at *
  rw [u64_xor a b ha.1 ha.2 hb.1 hb.2, u64_xor b a hb.1 hb.2 ha.1 ha.2, Nat.xor_comm]
theorem and_comm_w {a b : Int} (ha : IsW a) (hb : IsW b) : bits .and .u64 a b = bits .and .u64 b a := by
  unfold IsW at *
  rw [u64_and a b ha.1 ha.2 hb.1 hb.2, u64_and b a hb.1 hb.2 ha.1 ha.2, Nat.and_comm]
theorem xor_zero_w {a : Int} (ha : IsW a) : bits .xor .u64 a 0 = a := by
  unfold IsW at *
  rw [u64_xor a 0 ha.1 ha.2 (by omega) (by omega)]; simp; omega
theorem xor_xor_w {a b : Int} (ha : IsW a) (hb : IsW b) : bits .xor .u64 b (bits .xor .u64 a b) = a := by
  have h := xor_w ha hb
  unfold IsW at *
  rw [u64_xor b _ hb.1 hb.2 h.1 h.2, u64_xor a b ha.1 ha.2 hb.1 hb.2]
  rw [Int.toNat_natCast, Nat.xor_comm a.toNat, ← Nat.xor_assoc, Nat.xor_self, Nat.zero_xor]
  omega
theorem and_gate (m : Bool) {a : Int} (ha : IsW a) : bits .and .u64 (msk m) a = gate m a := by rw [and_msk m ha]; rfl
/-- b ^ m&(a^b) -/
theorem select_w (m : Bool) {a b : Int} (ha : IsW a) (hb : IsW b) : bits .xor .u64 b (bits .and .u64 (msk m) (bits .xor .u64 a b)) = if m then a else b := by
  rw [and_msk m (xor_w ha hb)]
  cases m
  · simpa using xor_zero_w hb
  · simpa using xor_xor_w ha hb
/-- one of two numbers -/
def selI (m : Bool) (a b : Int) : Int := if m then a else b
theorem select_wI (m : Bool) {a b : Int} (ha : IsW a) (hb : IsW b) : bits .xor .u64 b (bits .and .u64 (msk m) (bits .xor .u64 a b)) = selI m a b := select_w m ha hb
theorem shr63 {a : Int} (h : IsW a) : IsW (a / 9223372036854775808) ∧ (a / 9223372036854775808) % 2 = a / 9223372036854775808 ∧ ((a / 9223372036854775808) % 2 = 1 ↔ 9223372036854775808 ≤ a) := by
  unfold IsW at *; omega
/-- ^(a | -a) has its highest bit just where a is 0 -/
theorem zero_w {a : Int} (h : IsW a) : (18446744073709551615 - bits .or .u64 a (lo (0 - a))) / 9223372036854775808 % 2 = if a = 0 then 1 else 0 := by
  have h2 := isW_lo (0 - a)
  have hor := or_w h h2
  have hh := h
  unfold IsW at h h2 hor
  rw [u64_or a _ h.1 h.2 h2.1 h2.2] at *
  obtain ⟨n, rfl⟩ := Int.eq_ofNat_of_zero_le h.1
  by_cases hz : n = 0
  · subst hz; simp [lo]
  · have e := hi_or (a := n) (b := (lo (0 - (n : Int))).toNat) (by omega) (by omega)
    have hl : lo (0 - (n : Int)) = 18446744073709551616 - n := by unfold lo; omega
    have : (9223372036854775808 ≤ n ∨ 9223372036854775808 ≤ (lo (0 - (n : Int))).toNat) := by omega
    have e1 := e.2 this
    simp only [Int.toNat_natCast]
    rw [if_neg (by omega)]
    omega
/-- ^a&b | ^(a^b)&(a-b) has its highest bit just where a < b -/
theorem less_w {a b : Int} (ha : IsW a) (hb : IsW b) :
    bits .or .u64 (bits .and .u64 (18446744073709551615 - a) b) (bits .and .u64 (18446744073709551615 - bits .xor .u64 a b) (lo (a - b))) / 9223372036854775808 % 2 = if a < b then 1 else 0 := by
  have hna : IsW (18446744073709551615 - a) := by unfold IsW at *; omega
  have hx := xor_w ha hb
  have hnx : IsW (18446744073709551615 - bits .xor .u64 a b) := by unfold IsW at *; omega
  have hd := isW_lo (a - b)
  have h1 := and_w hna hb
  have h2 := and_w hnx hd
  have h3 := or_w h1 h2
  have hld : lo (a - b) = (a - b) % 18446744073709551616 := rfl
  unfold IsW at *
  rw [u64_or _ _ h1.1 h1.2 h2.1 h2.2] at *
  rw [u64_and _ _ hna.1 hna.2 hb.1 hb.2] at *
  rw [u64_and _ _ hnx.1 hnx.2 hd.1 hd.2] at *
  rw [u64_xor _ _ ha.1 ha.2 hb.1 hb.2] at *
  generalize hdd : lo (a - b) = d at *
  obtain ⟨n, rfl⟩ := Int.eq_ofNat_of_zero_le ha.1
  obtain ⟨m, rfl⟩ := Int.eq_ofNat_of_zero_le hb.1
  obtain ⟨k, rfl⟩ := Int.eq_ofNat_of_zero_le hd.1
  simp only [Int.toNat_natCast] at *
  have x1 := hi_xor (a := n) (b := m) (by omega) (by omega)
  generalize n ^^^ m = x at *
  have a1 := hi_and (a := (18446744073709551615 - (n : Int)).toNat) (b := m) (by omega)
  have a2 := hi_and (a := (18446744073709551615 - (x : Int)).toNat) (b := k) (by omega)
  generalize (18446744073709551615 - (n : Int)).toNat &&& m = y at *
  generalize (18446744073709551615 - (x : Int)).toNat &&& k = z at *
  have o1 := hi_or (a := y) (b := z) (by omega) (by omega)
  generalize y ||| z = q at *
  split <;> omega
/-- x ^ 2^63 -/
theorem flip_w {a : Int} (ha : IsW a) : bits .xor .u64 a 9223372036854775808 = lo (a + 9223372036854775808) := by
  unfold IsW at *
  rw [u64_xor a _ ha.1 ha.2 (by omega) (by omega)]
  obtain ⟨n, rfl⟩ := Int.eq_ofNat_of_zero_le ha.1
  show ((n ^^^ 9223372036854775808 : Nat) : Int) = _
  have h1 : (n ^^^ 9223372036854775808) % 2 ^ 63 = _ := Nat.xor_mod_two_pow
  have h2 : (n ^^^ 9223372036854775808) < 2 ^ 64 := Nat.xor_lt_two_pow (by omega) (by omega)
  have h3 := hi_xor (a := n) (b := 9223372036854775808) (by omega) (by omega)
  rw [show (9223372036854775808 : Nat) % 2 ^ 63 = 0 from rfl, Nat.xor_zero] at h1
  unfold lo; omega

/-! products of two words -/
theorem lo_add_lo (x y : Int) : lo (lo x + y) = lo (x + y) := by unfold lo; omega
theorem isW_lt_mul {a b : Int} (ha : IsW a) (hb : IsW b) : 0 ≤ a * b ∧ a * b ≤ 18446744073709551615 * 18446744073709551615 := by
  unfold IsW at *
  exact ⟨Int.mul_nonneg ha.1 hb.1, Int.mul_le_mul (by omega) (by omega) hb.1 (by omega)⟩
/-- the product of two words plus two words, in MulAdd's steps -/
theorem mulAdd_steps {p c d : Int} (hp : 0 ≤ p ∧ p ≤ 18446744073709551615 * 18446744073709551615) (hc : IsW c) (hd : IsW d) :
    lo (lo (lo p + c) + d) = lo (p + c + d) ∧
    lo (lo (hi p + (lo p + c) / 18446744073709551616) + (lo (lo p + c) + d) / 18446744073709551616) = hi (p + c + d) := by
  unfold IsW lo hi at *; omega
theorem sq_bd {a : Int} (h : IsI a) : 0 ≤ a * a ∧ a * a ≤ 9223372036854775808 * 9223372036854775808 := by
  unfold IsI at h
  rcases (by omega : 0 ≤ a ∨ a < 0) with h0 | h0
  · exact ⟨Int.mul_nonneg h0 h0, Int.mul_le_mul (by omega) (by omega) h0 (by omega)⟩
  · rw [← Int.neg_mul_neg a a]
    exact ⟨Int.mul_nonneg (by omega) (by omega), Int.mul_le_mul (by omega) (by omega) (by omega) (by omega)⟩
/-- the signed product out of the unsigned one: two corrections of the high word -/
theorem signed_lo {a b : Int} : lo (lo a * lo b) = lo (a * b) := by
  unfold lo
  rw [← Int.mul_emod]
theorem signed_hi {a b : Int} (ha : IsI a) (hb : IsI b) :
    lo (lo (hi (lo a * lo b) - gate (decide (a < 0)) (lo b)) - gate (decide (b < 0)) (lo a)) = hi (a * b) := by
  simp only [gate, decide_eq_true_eq]
  have la : lo a = if a < 0 then a + 18446744073709551616 else a := by unfold IsI lo at *; split <;> omega
  have lb : lo b = if b < 0 then b + 18446744073709551616 else b := by unfold IsI lo at *; split <;> omega
  rw [la, lb]
  by_cases h1 : a < 0 <;> by_cases h2 : b < 0 <;> simp only [h1, h2, if_true, if_false]
  · have e : (a + 18446744073709551616) * (b + 18446744073709551616) = a * b + (a + b) * 18446744073709551616 + 18446744073709551616 * 18446744073709551616 := by
      rw [Int.add_mul, Int.mul_add, Int.mul_add, Int.add_mul]; omega
    rw [e]; generalize a * b = p; unfold lo hi; omega
  · have e : (a + 18446744073709551616) * b = a * b + b * 18446744073709551616 := by rw [Int.add_mul]; omega
    rw [e]; generalize a * b = p; unfold lo hi; omega
  · have e : a * (b + 18446744073709551616) = a * b + a * 18446744073709551616 := by rw [Int.mul_add]
    rw [e]; generalize a * b = p; unfold lo hi; omega
  · generalize a * b = p; unfold lo hi; omega
/-- the school method by halves, as the reference does it -/
theorem halves {a b c d : Int} (ha : IsW a) (hb : IsW b) (hc : IsW c) (hd : IsW d) :
    ∃ x y z v : Int, x = (a % 4294967296) * (b % 4294967296) ∧ y = (a % 4294967296) * (b / 4294967296) ∧ z = (a / 4294967296) * (b % 4294967296) ∧ v = (a / 4294967296) * (b / 4294967296) ∧
      (0 ≤ x ∧ x ≤ 18446744065119617025) ∧ (0 ≤ y ∧ y ≤ 18446744065119617025) ∧ (0 ≤ z ∧ z ≤ 18446744065119617025) ∧ (0 ≤ v ∧ v ≤ 18446744065119617025) ∧
      a * b = v * 18446744073709551616 + (y + z) * 4294967296 + x := by
  have key : ∀ {p q : Int}, 0 ≤ p → p ≤ 4294967295 → 0 ≤ q → q ≤ 4294967295 → 0 ≤ p * q ∧ p * q ≤ 18446744065119617025 := by
    intro p q h1 h2 h3 h4
    exact ⟨Int.mul_nonneg h1 h3, by have := Int.mul_le_mul h2 h4 h3 (by omega : (0 : Int) ≤ 4294967295); omega⟩
  unfold IsW at *
  refine ⟨_, _, _, _, rfl, rfl, rfl, rfl, key (by omega) (by omega) (by omega) (by omega), key (by omega) (by omega) (by omega) (by omega), key (by omega) (by omega) (by omega) (by omega), key (by omega) (by omega) (by omega) (by omega), ?_⟩
  have e1 : a = (a / 4294967296) * 4294967296 + a % 4294967296 := by omega
  have e2 : b = (b / 4294967296) * 4294967296 + b % 4294967296 := by omega
  generalize a / 4294967296 = a1 at *
  generalize a % 4294967296 = a0 at *
  generalize b / 4294967296 = b1 at *
  generalize b % 4294967296 = b0 at *
  subst e1 e2
  rw [Int.add_mul, Int.mul_add, Int.mul_add]
  rw [show a1 * 4294967296 * (b1 * 4294967296) = (a1 * b1) * 18446744073709551616 from by rw [Int.mul_assoc, ← Int.mul_assoc 4294967296, Int.mul_comm 4294967296 b1, Int.mul_assoc b1, ← Int.mul_assoc]; rfl]
  rw [show a1 * 4294967296 * b0 = (a1 * b0) * 4294967296 from by rw [Int.mul_assoc, Int.mul_comm 4294967296 b0, ← Int.mul_assoc]]
  rw [show a0 * (b1 * 4294967296) = (a0 * b1) * 4294967296 from by rw [← Int.mul_assoc]]
  omega
end Wd
end Go.Proofs.YtoikcgmdlccdbaaDoor
