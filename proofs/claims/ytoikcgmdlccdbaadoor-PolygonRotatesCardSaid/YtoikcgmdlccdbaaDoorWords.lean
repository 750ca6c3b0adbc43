/- Contracts of the word functions (math/bits, package word) and of their reference: what each call returns, for every word; none changes memory. -/
import Derived.Test.YtoikcgmdlccdbaaDoorProg
import Derived.Test.YtoikcgmdlccdbaaDoorMath
import Derived.Lib.Hide
import Derived.Laws.Externs
import Derived.Shelf.Spec.BitsCarry
namespace Go.Proofs.YtoikcgmdlccdbaaDoor
set_option linter.unusedVariables false
set_option linter.unusedSimpArgs false
open Go.RowKit Wd

theorem add64 (x y c : Int) (hx : IsW x) (hy : IsW y) (h0 : 0 ≤ c) (h1 : c ≤ 1) (w : World) :
    (callFunc 127 #[.int .u64 x, .int .u64 y, .int .u64 c]).run Tryd.prog w = .ok (.value (.tuple #[.int .u64 (lo (x + y + c)), .int .u64 ((x + y + c) / 18446744073709551616)])) w := by
  unfold IsW at hx hy
  rw [run_callFunc_extern Tryd.func127 (by kernel_rfl) (by kernel_rfl) (by kernel_rfl) (e := add64Entry) (by kernel_rfl), run_add64 x y c hx.1 hy.1 h0 h1]
  rfl
theorem sub64 (x y c : Int) (hx : IsW x) (hy : IsW y) (h0 : 0 ≤ c) (h1 : c ≤ 1) (w : World) :
    (callFunc 124 #[.int .u64 x, .int .u64 y, .int .u64 c]).run Tryd.prog w = .ok (.value (.tuple #[.int .u64 (lo (x - y - c)), .int .u64 (bor x y c)])) w := by
  unfold IsW at hx hy
  obtain ⟨n, rfl⟩ := Int.eq_ofNat_of_zero_le hx.1
  obtain ⟨m, rfl⟩ := Int.eq_ofNat_of_zero_le hy.1
  obtain ⟨k, rfl⟩ := Int.eq_ofNat_of_zero_le h0
  rw [run_callFunc_extern Tryd.func124 (by kernel_rfl) (by kernel_rfl) (by kernel_rfl) (e := sub64Entry) (by kernel_rfl), run_sub64 n m k (by omega)]
  have e1 : (((n + 18446744073709551616 - m - k) % 18446744073709551616 : Nat) : Int) = lo ((n : Int) - m - k) := by unfold lo; omega
  have e2 : ((if n < m + k then 1 else 0 : Nat) : Int) = bor n m k := by unfold bor; split <;> split <;> omega
  rw [e1, e2]
  rfl

theorem word_Add (a b c : Int) (ha : IsW a) (hb : IsW b) (hc : IsW c) (w : World) :
    Calls Tryd.prog 122 #[.int .u64 a, .int .u64 b, .int .u64 c] w fun e w' => e = .returned (.tuple #[.int .u64 (lo (a + b + c % 2)), .int .u64 ((a + b + c % 2) / 18446744073709551616)]) ∧ w = w' := by
  have h := add64 a b (bits .and .u64 c 1) ha hb (by rw [and_one hc]; omega) (by rw [and_one hc]; omega)
  rw [← and_one hc]
  go_enter Tryd.func122, Tryd.ntmps122
  go_wp2
  go_ret2
  exact ⟨rfl, rfl⟩

theorem word_Sub (a b c : Int) (ha : IsW a) (hb : IsW b) (hc : IsW c) (w : World) :
    Calls Tryd.prog 119 #[.int .u64 a, .int .u64 b, .int .u64 c] w fun e w' => e = .returned (.tuple #[.int .u64 (lo (a - b - c % 2)), .int .u64 (bor a b (c % 2))]) ∧ w = w' := by
  have h := sub64 a b (bits .and .u64 c 1) ha hb (by rw [and_one hc]; omega) (by rw [and_one hc]; omega)
  rw [← and_one hc]
  go_enter Tryd.func119, Tryd.ntmps119
  go_wp2
  go_ret2
  exact ⟨rfl, rfl⟩

theorem word_Add0 (a b : Int) (ha : IsW a) (hb : IsW b) (w : World) :
    Calls Tryd.prog 122 #[.int .u64 a, .int .u64 b, .int .u64 0] w fun e w' => e = .returned (.tuple #[.int .u64 (lo (a + b)), .int .u64 ((a + b) / 18446744073709551616)]) ∧ w = w' := by
  have h := word_Add a b 0 ha hb (by unfold IsW; omega) w
  rw [show a + b + 0 % 2 = a + b from by omega] at h
  exact h
theorem word_AddC (a c : Int) (ha : IsW a) (hc : 0 ≤ c ∧ c ≤ 1) (w : World) :
    Calls Tryd.prog 122 #[.int .u64 a, .int .u64 0, .int .u64 c] w fun e w' => e = .returned (.tuple #[.int .u64 (lo (a + c)), .int .u64 ((a + c) / 18446744073709551616)]) ∧ w = w' := by
  have h := word_Add a 0 c ha (by unfold IsW; omega) (by unfold IsW; omega) w
  rw [show a + 0 + c % 2 = a + c from by omega] at h
  exact h

namespace Mul64
theorem maskN (a : Nat) (ha : a < 18446744073709551616) : bits .and .u64 (a : Int) 4294967295 = ((a % 4294967296 : Nat) : Int) := by
  have h := bits_and_u64_nat a 4294967295 ha (by omega)
  have e : a &&& 4294967295 = a % 4294967296 := Nat.and_two_pow_sub_one_eq_mod a 32
  rw [e] at h
  exact h
theorem divN (a : Nat) : (a : Int) / 4294967296 = ((a / 4294967296 : Nat) : Int) := by omega
theorem mulN (a b : Nat) : (a : Int) * (b : Int) = ((a * b : Nat) : Int) := (Int.natCast_mul a b).symm
theorem addN (a b : Nat) : (a : Int) + (b : Int) = ((a + b : Nat) : Int) := (Int.natCast_add a b).symm
theorem wrapN (a : Nat) (ha : a < 18446744073709551616) : IntKind.u64.wrap (a : Int) = (a : Int) := by rw [IntKind.wrap_u64]; omega
theorem wrapM (a : Nat) : IntKind.u64.wrap (a : Int) = ((a % 18446744073709551616 : Nat) : Int) := by rw [IntKind.wrap_u64]; omega
end Mul64

set_option maxHeartbeats 1000000 in
theorem bits_Mul64_nat (x y : Nat) (hx : x < 18446744073709551616) (hy : y < 18446744073709551616) (w : World) :
    Calls Tryd.prog 128 #[.int .u64 x, .int .u64 y] w fun e w' => e = .returned (.tuple #[.int .u64 ((x * y / 18446744073709551616 : Nat) : Int), .int .u64 ((x * y % 18446744073709551616 : Nat) : Int)]) ∧ w = w' := by
  obtain ⟨bd, bt, bw, hhi⟩ := Lib.mul64_hi x y hx hy
  have ba := Lib.half_mul_le (a := x / 4294967296) (b := y / 4294967296) (by omega) (by omega)
  have bb := Lib.half_mul_le (a := x / 4294967296) (b := y % 4294967296) (by omega) (by omega)
  have bc := Lib.half_mul_le (a := x % 4294967296) (b := y / 4294967296) (by omega) (by omega)
  have ba' : x / 4294967296 * (y / 4294967296) < 18446744073709551616 := by omega
  have bb' : x / 4294967296 * (y % 4294967296) < 18446744073709551616 := by omega
  have bc' : x % 4294967296 * (y / 4294967296) < 18446744073709551616 := by omega
  have bh1 : x / 4294967296 * (y / 4294967296) + (x / 4294967296 * (y % 4294967296) + x % 4294967296 * (y % 4294967296) / 4294967296) / 4294967296 < 18446744073709551616 := by omega
  have bh : x / 4294967296 * (y / 4294967296) + (x / 4294967296 * (y % 4294967296) + x % 4294967296 * (y % 4294967296) / 4294967296) / 4294967296 + ((x / 4294967296 * (y % 4294967296) + x % 4294967296 * (y % 4294967296) / 4294967296) % 4294967296 + x % 4294967296 * (y / 4294967296)) / 4294967296 < 18446744073709551616 := by omega
  go_enter Tryd.func128, Tryd.ntmps128
  go_wp2
  simp only [Mul64.maskN x hx, Mul64.maskN y hy, Mul64.divN, Mul64.mulN, Mul64.addN, Mul64.wrapN _ bd, Mul64.wrapN _ bb', Mul64.wrapN _ bt, Mul64.maskN _ bt, Mul64.wrapN _ bc', Mul64.wrapN _ bw, Mul64.wrapN _ ba', Mul64.wrapN _ bh1, Mul64.wrapN _ bh, Mul64.wrapM (x * y)]
  rw [hhi]
  go_ret2
  exact ⟨rfl, rfl⟩

theorem bits_Mul64 (a b : Int) (ha : IsW a) (hb : IsW b) (w : World) :
    Calls Tryd.prog 128 #[.int .u64 a, .int .u64 b] w fun e w' => e = .returned (.tuple #[.int .u64 (hi (a * b)), .int .u64 (lo (a * b))]) ∧ w = w' := by
  have hm := isW_lt_mul ha hb
  unfold IsW at ha hb
  obtain ⟨n, rfl⟩ := Int.eq_ofNat_of_zero_le ha.1
  obtain ⟨m, rfl⟩ := Int.eq_ofNat_of_zero_le hb.1
  have e1 : hi ((n : Int) * m) = ((n * m / 18446744073709551616 : Nat) : Int) := by rw [← Int.natCast_mul] at *; unfold hi; omega
  have e2 : lo ((n : Int) * m) = ((n * m % 18446744073709551616 : Nat) : Int) := by rw [← Int.natCast_mul]; unfold lo; omega
  rw [e1, e2]
  exact bits_Mul64_nat n m (by omega) (by omega) w


set_option maxHeartbeats 400000 in
theorem word_MulAdd (a b c d : Int) (ha : IsW a) (hb : IsW b) (hc : IsW c) (hd : IsW d) (w : World) :
    Calls Tryd.prog 123 #[.int .u64 a, .int .u64 b, .int .u64 c, .int .u64 d] w fun e w' => e = .returned (.tuple #[.int .u64 (hi (a * b + c + d)), .int .u64 (lo (a * b + c + d))]) ∧ w = w' := by
  have hp := isW_lt_mul ha hb
  have hst := mulAdd_steps hp hc hd
  rw [← hst.1, ← hst.2]
  clear hst
  generalize hq : a * b = p at *
  have Hq := Lib.hid hq; clear hq
  have b1 := isW_lo p
  have b2 := isW_hi p
  have b3 := isW_lo (lo p + c)
  have b4 : 0 ≤ (lo p + c) / 18446744073709551616 ∧ (lo p + c) / 18446744073709551616 ≤ 1 := by unfold IsW at *; omega
  have b5 := isW_lo (hi p + (lo p + c) / 18446744073709551616)
  have b6 : 0 ≤ (lo (lo p + c) + d) / 18446744073709551616 ∧ (lo (lo p + c) + d) / 18446744073709551616 ≤ 1 := by unfold IsW at *; omega
  have z0 : IsW 0 := by unfold IsW; omega
  have h1 := add64 (lo p) c 0 b1 hc (by omega) (by omega)
  have h2 := add64 (hi p) 0 ((lo p + c) / 18446744073709551616) b2 z0 b4.1 b4.2
  have h3 := add64 (lo (lo p + c)) d 0 b3 hd (by omega) (by omega)
  have h4 := add64 (lo (hi p + (lo p + c) / 18446744073709551616)) 0 ((lo (lo p + c) + d) / 18446744073709551616) b5 z0 b6.1 b6.2
  simp only [Int.add_zero] at h1 h2 h3 h4
  clear b1 b2 b3 b4 b5 b6 z0 hp
  go_enter Tryd.func123, Tryd.ntmps123
  go_wp2_with (go_at_call 128; refine (bits_Mul64 _ _ ha hb _).mono ?_; rintro e w' ⟨rfl, rfl⟩; rw [Hq.out])
  go_ret2
  exact ⟨rfl, rfl⟩

theorem mask_Of (c : Int) (hc : IsW c) (w : World) :
    Calls Tryd.prog 73 #[.int .u64 c] w fun e w' => e = .returned (.int .u64 (msk (decide (c % 2 = 1)))) ∧ w = w' := by
  have h := msk_of hc
  rw [← h, ← wrapU]
  clear h
  go_enter Tryd.func73, Tryd.ntmps73
  go_wp2
  go_ret
  exact ⟨rfl, rfl⟩

theorem word_Fill (a : Int) (ha : IsW a) (w : World) :
    Calls Tryd.prog 91 #[.int .u64 a] w fun e w' => e = .returned (.int .u64 (msk (decide (9223372036854775808 ≤ a)))) ∧ w = w' := by
  have h := shr63 ha
  have e1 : (decide (9223372036854775808 ≤ a)) = decide ((a / 9223372036854775808) % 2 = 1) := by rw [decide_eq_decide]; exact h.2.2.symm
  rw [e1]
  have h1 := h.1
  clear h e1
  go_enter Tryd.func91, Tryd.ntmps91
  go_wp2_with (go_at_call 73; refine (mask_Of _ h1 _).mono ?_; rintro e w' ⟨rfl, rfl⟩)
  go_ret
  exact ⟨rfl, rfl⟩
end Go.Proofs.YtoikcgmdlccdbaaDoor
