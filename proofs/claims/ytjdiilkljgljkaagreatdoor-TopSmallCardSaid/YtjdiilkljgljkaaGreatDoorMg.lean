/- Whole numbers below 2^53 as double precision words: sums, differences, products and comparisons are exact. No program's run. Points with small coordinates as complex numbers: the orientation computed with them is the exact one. The orientation of small points, computed with complex numbers. The words at the head of the program, as lists of signs: what the rows ask of them. Of a list of laid variables the rest is laid, too. -/
import Derived.Laws.FloatArith
import Derived.Laws.ComplexArith
import Derived.Test.YtjdiilkljgljkaaGreatDoorMd
import Derived.Test.YtjdiilkljgljkaaGreatDoorMa
import Derived.RegionTactic
import Derived.BigQuiet
import Derived.Deep.QuietTactic
import Derived.WalkLawsBesides
import Derived.Lib.MinMax
import Derived.Test.YtjdiilkljgljkaaGreatDoorMf
import Derived.Test.YtjdiilkljgljkaaGreatDoorCards
import Derived.Test.YtjdiilkljgljkaaGreatDoorTie
import Derived.WalkKit
import Derived.ProofKit
import Derived.OpenShut
import Derived.Lib.LaidTab
namespace Go.Proofs.YtjdiilkljgljkaaGreatDoor
set_option linter.unusedVariables false
set_option linter.unusedSimpArgs false
open Ieee

/-- the rung of the whole number m -/
def rung (m : Nat) : Nat := if m = 0 then 0 else (m.log2 + 1022) * 2 ^ 52 + m * 2 ^ (52 - m.log2)
/-- the word of a sign and a whole number -/
def wd (s : Bool) (m : Nat) : Nat := double.word s (rung m)
/-- the places behind the point of the whole number's significand -/
def bh (m : Nat) : Nat := if m = 0 then 1074 else 52 - m.log2

theorem log2_lt {m : Nat} (h : m < 2 ^ 53) (h0 : m ≠ 0) : m.log2 ≤ 52 := by
  have := (Nat.log2_lt h0).2 h; omega
theorem log2_bounds {m : Nat} (h0 : m ≠ 0) : 2 ^ m.log2 ≤ m ∧ m < 2 ^ (m.log2 + 1) := ⟨Nat.log2_self_le h0, Nat.lt_log2_self⟩
theorem kept_bounds {m : Nat} (h : m < 2 ^ 53) (h0 : m ≠ 0) : 2 ^ 52 ≤ m * 2 ^ (52 - m.log2) ∧ m * 2 ^ (52 - m.log2) < 2 ^ 53 := by
  have hl := log2_lt h h0
  obtain ⟨h1, h2⟩ := log2_bounds h0
  constructor
  · have h3 := Nat.mul_le_mul_right (2 ^ (52 - m.log2)) h1
    rw [← Nat.pow_add, show m.log2 + (52 - m.log2) = 52 by omega] at h3; exact h3
  · have h3 := Nat.mul_lt_mul_of_pos_right h2 (show 0 < 2 ^ (52 - m.log2) from Nat.pow_pos (by decide))
    rw [← Nat.pow_add, show m.log2 + 1 + (52 - m.log2) = 53 by omega] at h3; exact h3
theorem least_eq : double.leastPlace = -1074 := by decide
theorem binade_eq : double.binade = 2 ^ 52 := rfl
theorem infRung_eq : double.infRung = 2047 * 2 ^ 52 := by decide
theorem sign_eq : double.signWeight = 2 ^ 63 := rfl
theorem rung_lt {m : Nat} (h : m < 2 ^ 53) : rung m < 2047 * 2 ^ 52 := by
  unfold rung; split
  · decide
  · rename_i h0
    have := log2_lt h h0; have := (kept_bounds h h0).2
    generalize m * 2 ^ (52 - m.log2) = k at *
    have h3 : (m.log2 + 1022) * 2 ^ 52 ≤ 1074 * 2 ^ 52 := Nat.mul_le_mul_right _ (by omega)
    omega
set_option maxRecDepth 20000 in
theorem read_wd (s : Bool) {m : Nat} (h : m < 2 ^ 53) : double.read (wd s m) = .number s (m * 2 ^ bh m) (-(bh m : Int)) := by
  have hr := rung_lt h
  have hneg : (wd s m / double.signWeight % 2 == 1) = s := by
    unfold wd Format.word; rw [sign_eq]
    cases s
    · rw [if_neg (by simp), Nat.div_eq_of_lt (by omega)]; rfl
    · rw [if_pos rfl, Nat.add_div_left _ (by decide), Nat.div_eq_of_lt (by omega)]; rfl
  have hrun : wd s m % double.signWeight = rung m := by
    unfold wd Format.word; rw [sign_eq]
    cases s
    · rw [if_neg (by simp), Nat.mod_eq_of_lt (by omega)]
    · rw [if_pos rfl, Nat.add_mod_left, Nat.mod_eq_of_lt (by omega)]
  unfold Format.read
  simp only [hneg, hrun]
  rw [binade_eq, infRung_eq]
  by_cases h0 : m = 0
  · subst h0
    rw [show rung 0 = 0 from rfl, if_pos (Nat.two_pow_pos 52), least_eq, Nat.zero_mul]; rfl
  · obtain ⟨k1, k2⟩ := kept_bounds h h0
    have hl := log2_lt h h0
    have e : rung m = (m.log2 + 1022) * 2 ^ 52 + m * 2 ^ (52 - m.log2) := by unfold rung; rw [if_neg h0]
    have eb : bh m = 52 - m.log2 := by unfold bh; rw [if_neg h0]
    rw [eb]
    generalize m * 2 ^ (52 - m.log2) = k at *
    have hk : k - 2 ^ 52 < 2 ^ 52 := by omega
    have e2 : rung m = (k - 2 ^ 52) + 2 ^ 52 * (m.log2 + 1023) := by
      rw [e, show m.log2 + 1023 = (m.log2 + 1022) + 1 by omega, Nat.mul_add, Nat.mul_comm]; omega
    have e3 : rung m % 2 ^ 52 = k - 2 ^ 52 := by rw [e2, Nat.add_mul_mod_self_left]; exact Nat.mod_eq_of_lt hk
    have e40 : (k - 2 ^ 52) / 2 ^ 52 = 0 := Nat.div_eq_of_lt hk
    have e4 : rung m / 2 ^ 52 = m.log2 + 1023 := by
      have := Nat.add_mul_div_left (k - 2 ^ 52) (m.log2 + 1023) (Nat.two_pow_pos 52)
      rw [← e2, e40] at this; omega
    have h5 : 2 ^ 52 ≤ rung m := by rw [e2]; exact Nat.le_trans (Nat.le_mul_of_pos_right _ (Nat.succ_pos _)) (Nat.le_add_left _ _)
    have e6 : 2 ^ 52 + (k - 2 ^ 52) = k := by omega
    have e7 : (-1074 : Int) + ((m.log2 + 1023 - 1 : Nat) : Int) = -((52 - m.log2 : Nat) : Int) := by omega
    rw [if_neg (Nat.not_lt.2 h5), if_pos hr, e3, e4, least_eq, e6, e7]
theorem write_wd (s : Bool) {m : Nat} (h : m < 2 ^ 53) (E : Nat) : double.nearest s (m * 2 ^ E) (-(E : Int)) = wd s m := by
  unfold Format.nearest wd
  by_cases h0 : m = 0
  · subst h0; simp [rung]
  · have hl := log2_lt h h0
    have hz : m * 2 ^ E ≠ 0 := Nat.mul_ne_zero h0 (Nat.ne_of_gt (Nat.pow_pos (by decide)))
    rw [if_neg hz]
    have hlog : (m * 2 ^ E).log2 = m.log2 + E := by
      obtain ⟨h1, h2⟩ := log2_bounds h0
      apply (Nat.log2_eq_iff hz).2
      have hp : 0 < 2 ^ E := Nat.pow_pos (by decide)
      constructor
      · rw [Nat.pow_add]; exact Nat.mul_le_mul_right _ h1
      · rw [show m.log2 + E + 1 = (m.log2 + 1) + E by omega, Nat.pow_add]; exact Nat.mul_lt_mul_of_pos_right h2 hp
    have hlast : max (-(E : Int) + ((m * 2 ^ E).log2 : Nat) - (double.fractionBits : Nat)) double.leastPlace = (m.log2 : Int) - 52 := by
      rw [hlog, least_eq, show double.fractionBits = 52 from rfl]; omega
    simp only [hlast]
    have hkept : (m * 2 ^ E) <<< (-(E : Int) - ((m.log2 : Int) - 52)).toNat / 2 ^ ((m.log2 : Int) - 52 - -(E : Int)).toNat = m * 2 ^ (52 - m.log2) ∧ (m * 2 ^ E) <<< (-(E : Int) - ((m.log2 : Int) - 52)).toNat % 2 ^ ((m.log2 : Int) - 52 - -(E : Int)).toNat = 0 := by
      rw [Nat.shiftLeft_eq, Nat.mul_assoc, ← Nat.pow_add]
      rcases Nat.le_total (52 - m.log2) E with hE | hE
      · have e1 : (-(E : Int) - ((m.log2 : Int) - 52)).toNat = 0 := by omega
        have e2 : ((m.log2 : Int) - 52 - -(E : Int)).toNat = E - (52 - m.log2) := by omega
        rw [e1, e2, Nat.add_zero]
        have e3 : m * 2 ^ E = m * 2 ^ (52 - m.log2) * 2 ^ (E - (52 - m.log2)) := by rw [Nat.mul_assoc, ← Nat.pow_add]; congr 2; omega
        rw [e3]
        exact ⟨Nat.mul_div_cancel _ (Nat.two_pow_pos _), Nat.mul_mod_left _ _⟩
      · have e1 : E + (-(E : Int) - ((m.log2 : Int) - 52)).toNat = 52 - m.log2 := by omega
        have e2 : ((m.log2 : Int) - 52 - -(E : Int)).toNat = 0 := by omega
        rw [e1, e2, Nat.pow_zero, Nat.div_one, Nat.mod_one]
        exact ⟨rfl, rfl⟩
    have hcut : Toward.even.cut s ((m * 2 ^ E) <<< (-(E : Int) - ((m.log2 : Int) - 52)).toNat) ((m.log2 : Int) - 52 - -(E : Int)).toNat = m * 2 ^ (52 - m.log2) := by
      obtain ⟨k1, k2⟩ := kept_bounds h h0
      generalize (m * 2 ^ E) <<< (-(E : Int) - ((m.log2 : Int) - 52)).toNat = n at *
      generalize ((m.log2 : Int) - 52 - -(E : Int)).toNat = d at *
      obtain ⟨h1, h2⟩ := hkept
      have hn : n = m * 2 ^ (52 - m.log2) * 2 ^ d := by have := Nat.div_add_mod n (2 ^ d); rw [h1, h2, Nat.add_zero, Nat.mul_comm] at this; exact this.symm
      have hge : 2 ^ d ≤ n := by rw [hn]; exact Nat.le_mul_of_pos_left _ (Nat.lt_of_lt_of_le (Nat.two_pow_pos 52) k1)
      have hd : d ≤ n.log2 := (Nat.le_log2 (by have := Nat.two_pow_pos d; omega)).2 hge
      have hgap : 1 <<< min d (n.log2 + 2) = 2 ^ d := by rw [Nat.min_eq_left (by omega), Nat.shiftLeft_eq, Nat.one_mul]
      unfold Toward.cut
      simp only [hgap, h1, h2]
      have hz : ¬ (2 ^ d = 0) := Nat.ne_of_gt (Nat.two_pow_pos d)
      simp [hz]
    rw [hcut]
    obtain ⟨k1, k2⟩ := kept_bounds h h0
    have e : rung m = (m.log2 + 1022) * 2 ^ 52 + m * 2 ^ (52 - m.log2) := by unfold rung; rw [if_neg h0]
    have e2 : ((m.log2 : Int) - 52 - double.leastPlace).toNat = m.log2 + 1022 := by rw [least_eq]; omega
    rw [e2, binade_eq, ← e, infRung_eq, Nat.min_eq_left (Nat.le_of_lt (rung_lt h))]
/-- r is the word of the whole number n (a zero may have either sign) -/
def Enc (r : Nat) (n : Int) : Prop := ∃ s : Bool, r = wd s n.natAbs ∧ (n < 0 → s = true) ∧ (0 < n → s = false)
theorem Enc.read {r : Nat} {n : Int} (h : Enc r n) (hn : n.natAbs < 2 ^ 53) : ∃ s, double.read r = .number s (n.natAbs * 2 ^ bh n.natAbs) (-(bh n.natAbs : Int)) ∧ (n < 0 → s = true) ∧ (0 < n → s = false) := by
  obtain ⟨s, rfl, h1, h2⟩ := h
  exact ⟨s, read_wd s hn, h1, h2⟩
theorem signed_abs {s : Bool} {n : Int} (h1 : n < 0 → s = true) (h2 : 0 < n → s = false) (E : Nat) (k : Nat) : signed s (n.natAbs * 2 ^ E) k = n * 2 ^ (E + k) := by
  unfold signed
  rw [Nat.shiftLeft_eq, Nat.mul_assoc, ← Nat.pow_add]
  generalize E + k = q
  have hp : ((n.natAbs * 2 ^ q : Nat) : Int) = (n.natAbs : Int) * 2 ^ q := by simp
  rw [hp]
  rcases Int.lt_trichotomy n 0 with h | h | h
  · rw [h1 h, if_pos rfl, show (n.natAbs : Int) = -n by omega, Int.neg_mul, Int.neg_neg]
  · subst h; simp
  · rw [h2 h, if_neg (by simp), show (n.natAbs : Int) = n by omega]
theorem enc_write {s : Bool} {n : Int} {E : Nat} (hn : n.natAbs < 2 ^ 53) (h1 : n < 0 → s = true) (h2 : 0 < n → s = false) : Enc (double.write (.number s (n.natAbs * 2 ^ E) (-(E : Int)))) n :=
  ⟨s, write_wd s hn E, h1, h2⟩
theorem enc_sum {x y : Nat} {a b : Int} {dx dy : Datum} (hx : ∃ s, dx = .number s (a.natAbs * 2 ^ bh a.natAbs) (-(bh a.natAbs : Int)) ∧ (a < 0 → s = true) ∧ (0 < a → s = false))
    (hy : ∃ s, dy = .number s (b.natAbs * 2 ^ bh b.natAbs) (-(bh b.natAbs : Int)) ∧ (b < 0 → s = true) ∧ (0 < b → s = false)) (hab : (a + b).natAbs < 2 ^ 53) :
    ∃ r, (dx.sum dy).map double.write = some r ∧ Enc r (a + b) := by
  obtain ⟨s, rfl, s1, s2⟩ := hx
  obtain ⟨t, rfl, t1, t2⟩ := hy
  generalize bh a.natAbs = E at *
  generalize bh b.natAbs = F at *
  have hbase : min (-(E : Int)) (-(F : Int)) = -((max E F : Nat) : Int) := by omega
  have e1 : (-(E : Int) - -((max E F : Nat) : Int)).toNat = max E F - E := by omega
  have e2 : (-(F : Int) - -((max E F : Nat) : Int)).toNat = max E F - F := by omega
  simp only [Datum.sum, hbase, e1, e2, signed_abs s1 s2, signed_abs t1 t2, show E + (max E F - E) = max E F by omega, show F + (max E F - F) = max E F by omega, ← Int.add_mul, Option.map_some]
  refine ⟨_, rfl, ?_⟩
  generalize max E F = G at *
  have hp : (0 : Int) < 2 ^ G := Int.pow_pos (by decide)
  have hnat : ((a + b) * 2 ^ G).natAbs = (a + b).natAbs * 2 ^ G := by rw [Int.natAbs_mul, Int.natAbs_pow]; rfl
  rw [hnat]
  refine enc_write hab (fun h => ?_) (fun h => ?_)
  · have h3 : (a + b) * 2 ^ G < 0 := Int.mul_neg_of_neg_of_pos h hp
    rw [if_neg (by omega)]; simpa using h3
  · have h3 : 0 < (a + b) * 2 ^ G := Int.mul_pos h hp
    rw [if_neg (by omega)]; simp; omega
theorem enc_add {x y : Nat} {a b : Int} (hx : Enc x a) (hy : Enc y b) (ha : a.natAbs < 2 ^ 53) (hb : b.natAbs < 2 ^ 53) (hab : (a + b).natAbs < 2 ^ 53) : ∃ r, double.add x y = some r ∧ Enc r (a + b) := enc_sum (x := x) (y := y) (hx.read ha) (hy.read hb) hab
theorem enc_sub {x y : Nat} {a b : Int} (hx : Enc x a) (hy : Enc y b) (ha : a.natAbs < 2 ^ 53) (hb : b.natAbs < 2 ^ 53) (hab : (a - b).natAbs < 2 ^ 53) : ∃ r, double.sub x y = some r ∧ Enc r (a - b) := by
  have h := enc_sum (x := x) (y := y) (b := -b) (dy := (double.read y).opposite) (hx.read ha) ?_ (by rw [← Int.sub_eq_add_neg]; exact hab)
  · rw [← Int.sub_eq_add_neg] at h; exact h
  · obtain ⟨s, e, s1, s2⟩ := hy.read hb
    refine ⟨!s, ?_, fun h => ?_, fun h => ?_⟩
    · rw [e, Int.natAbs_neg]; rfl
    · rw [s2 (by omega)]; rfl
    · rw [s1 (by omega)]; rfl
theorem enc_mul {x y : Nat} {a b : Int} (hx : Enc x a) (hy : Enc y b) (ha : a.natAbs < 2 ^ 53) (hb : b.natAbs < 2 ^ 53) (hab : (a * b).natAbs < 2 ^ 53) : ∃ r, double.mul x y = some r ∧ Enc r (a * b) := by
  obtain ⟨s, e1, s1, s2⟩ := hx.read ha
  obtain ⟨t, e2, t1, t2⟩ := hy.read hb
  unfold Format.mul
  rw [e1, e2]
  simp only [Datum.product, Option.map_some]
  refine ⟨_, rfl, ?_⟩
  have h3 : a.natAbs * 2 ^ bh a.natAbs * (b.natAbs * 2 ^ bh b.natAbs) = (a * b).natAbs * 2 ^ (bh a.natAbs + bh b.natAbs) := by
    rw [Int.natAbs_mul, Nat.pow_add]; simp only [Nat.mul_assoc, Nat.mul_left_comm, Nat.mul_comm]
  have h4 : -(bh a.natAbs : Int) + -(bh b.natAbs : Int) = -((bh a.natAbs + bh b.natAbs : Nat) : Int) := by omega
  rw [h3, h4]
  refine enc_write hab (fun h => ?_) (fun h => ?_)
  · rcases Int.lt_trichotomy a 0 with h5 | h5 | h5
    · rcases Int.lt_trichotomy b 0 with h6 | h6 | h6
      · have := Int.mul_pos_of_neg_of_neg h5 h6; omega
      · subst h6; simp at h
      · rw [s1 h5, t2 h6]; rfl
    · subst h5; simp at h
    · rcases Int.lt_trichotomy b 0 with h6 | h6 | h6
      · rw [s2 h5, t1 h6]; rfl
      · subst h6; simp at h
      · have := Int.mul_pos h5 h6; omega
  · rcases Int.lt_trichotomy a 0 with h5 | h5 | h5
    · rcases Int.lt_trichotomy b 0 with h6 | h6 | h6
      · rw [s1 h5, t1 h6]; rfl
      · subst h6; simp at h
      · have := Int.mul_neg_of_neg_of_pos h5 h6; omega
    · subst h5; simp at h
    · rcases Int.lt_trichotomy b 0 with h6 | h6 | h6
      · have := Int.mul_neg_of_pos_of_neg h5 h6; omega
      · subst h6; simp at h
      · rw [s2 h5, t2 h6]; rfl
theorem enc_order {x y : Nat} {a b : Int} (hx : Enc x a) (hy : Enc y b) (ha : a.natAbs < 2 ^ 53) (hb : b.natAbs < 2 ^ 53) : double.order x y = some (compare a b) := by
  obtain ⟨s, e1, s1, s2⟩ := hx.read ha
  obtain ⟨t, e2, t1, t2⟩ := hy.read hb
  unfold Format.order
  rw [e1, e2]
  generalize bh a.natAbs = E at *
  generalize bh b.natAbs = F at *
  have hbase : min (-(E : Int)) (-(F : Int)) = -((max E F : Nat) : Int) := by omega
  have e1 : (-(E : Int) - -((max E F : Nat) : Int)).toNat = max E F - E := by omega
  have e2 : (-(F : Int) - -((max E F : Nat) : Int)).toNat = max E F - F := by omega
  simp only [Datum.order, hbase, e1, e2, signed_abs s1 s2, signed_abs t1 t2, show E + (max E F - E) = max E F by omega, show F + (max E F - F) = max E F by omega]
  generalize max E F = G at *
  have hp : (0 : Int) < 2 ^ G := Int.pow_pos (by decide)
  congr 1
  simp only [compare, compareOfLessAndEq, Int.mul_lt_mul_right hp, Int.mul_eq_mul_right_iff (Int.ne_of_gt hp)]
theorem enc_int {n : Int} (hn : n.natAbs < 2 ^ 53) : Enc (FloatKind.f64.nearest n) n := by
  refine ⟨decide (n < 0), ?_, fun h => by simpa using h, fun h => by simp; omega⟩
  have := write_wd (decide (n < 0)) hn 0
  rw [Nat.pow_zero, Nat.mul_one] at this
  exact this
theorem xor63 {r : Nat} (h : r < 2 ^ 63) : r ^^^ 2 ^ 63 = 2 ^ 63 + r := by
  apply Nat.eq_of_testBit_eq
  intro i
  rw [Nat.testBit_xor, Nat.testBit_two_pow]
  rcases Nat.lt_trichotomy i 63 with h1 | h1 | h1
  · rw [Nat.testBit_two_pow_add_gt h1, show decide (63 = i) = false from by simp; omega]; simp
  · subst h1; rw [Nat.testBit_two_pow_add_eq]; simp
  · have h2 : 2 ^ 64 ≤ 2 ^ i := Nat.pow_le_pow_right (by decide) (by omega)
    have e : (2 : Nat) ^ 64 = 2 ^ 63 + 2 ^ 63 := by decide
    rw [Nat.testBit_lt_two_pow (show r < 2 ^ i from Nat.lt_of_lt_of_le h (Nat.le_trans (by rw [e]; exact Nat.le_add_left _ _) h2)), Nat.testBit_lt_two_pow (show 2 ^ 63 + r < 2 ^ i from Nat.lt_of_lt_of_le (by rw [e]; exact Nat.add_lt_add_left h _) h2), show decide (63 = i) = false from by simp; omega]
    rfl
theorem enc_neg {x : Nat} {a : Int} (hx : Enc x a) (ha : a.natAbs < 2 ^ 53) : Enc (Op.negFloat .f64 x) (-a) := by
  obtain ⟨s, rfl, s1, s2⟩ := hx
  refine ⟨!s, ?_, fun h => by rw [s2 (by omega)]; rfl, fun h => by rw [s1 (by omega)]; rfl⟩
  rw [Int.natAbs_neg]
  have hr : rung a.natAbs < 2 ^ 63 := Nat.lt_trans (rung_lt ha) (by decide)
  show wd s a.natAbs ^^^ 2 ^ 63 = _
  unfold wd Format.word
  rw [sign_eq]
  cases s
  · simp only [Bool.not_false, Bool.false_eq_true, if_false, if_true]; exact xor63 hr
  · simp only [Bool.not_true, Bool.false_eq_true, if_false, if_true]; rw [← xor63 hr, Nat.xor_assoc, Nat.xor_self, Nat.xor_zero]
end Go.Proofs.YtjdiilkljgljkaaGreatDoor
namespace Go.Proofs.YtjdiilkljgljkaaGreatDoor
set_option linter.unusedVariables false
set_option linter.unusedSimpArgs false
open Go.RowKit Wd

/-- small coordinates -/
def smB (x y : Int) : Bool := decide (-16777216 ≤ x) && decide (x ≤ 16777216) && decide (-16777216 ≤ y) && decide (y ≤ 16777216)
theorem smB_iff {x y : Int} : smB x y = true ↔ (-16777216 ≤ x ∧ x ≤ 16777216) ∧ (-16777216 ≤ y ∧ y ≤ 16777216) := by
  unfold smB; simp [and_assoc]
set_option maxHeartbeats 4000000 in
set_option maxRecDepth 100000 in
theorem ref9_IsSmall (x y : Int) (w : World) :
    Calls Tryz.prog 27 #[.agg #[.int .i64 x, .int .i64 y]] w fun e w' => e = .returned (.bool (smB x y)) ∧ Below w.heap.size w w' := by
  by_cases h1 : -16777216 ≤ x
  · by_cases h2 : x ≤ 16777216
    · by_cases h3 : -16777216 ≤ y
      · by_cases h4 : y ≤ 16777216
        · rw [show smB x y = true from smB_iff.2 ⟨⟨h1, h2⟩, h3, h4⟩]
          go_enter Tryz.func27, Tryz.ntmps27
          go_wp2_with fail
          go_ret
          exact ⟨rfl, below_al below_rf⟩
        · rw [show smB x y = false from by unfold smB; simp [h4]]
          go_enter Tryz.func27, Tryz.ntmps27
          go_wp2_with fail
          go_ret
          exact ⟨rfl, below_al below_rf⟩
      · rw [show smB x y = false from by unfold smB; simp [h3]]
        go_enter Tryz.func27, Tryz.ntmps27
        go_wp2_with fail
        go_ret
        exact ⟨rfl, below_al below_rf⟩
    · rw [show smB x y = false from by unfold smB; simp [h2]]
      go_enter Tryz.func27, Tryz.ntmps27
      go_wp2_with fail
      go_ret
      exact ⟨rfl, below_al below_rf⟩
  · rw [show smB x y = false from by unfold smB; simp [h1]]
    go_enter Tryz.func27, Tryz.ntmps27
    go_wp2_with fail
    go_ret
    exact ⟨rfl, below_al below_rf⟩
set_option maxHeartbeats 4000000 in
set_option maxRecDepth 100000 in
theorem plane_IsSmall (x y : Int) (w : World) :
    Calls Tryz.prog 69 #[.agg #[.int .i64 x, .int .i64 y]] w fun e w' => e = .returned (.bool (smB x y)) ∧ Below w.heap.size w w' := by
  by_cases h1 : max x y ≤ 16777216
  · by_cases h2 : -16777216 ≤ min x y
    · rw [show smB x y = true from smB_iff.2 ⟨⟨by omega, by omega⟩, by omega, by omega⟩]
      go_enter Tryz.func69, Tryz.ntmps69
      go_wp2_with fail
      go_ret
      exact ⟨rfl, below_al below_rf⟩
    · rw [show smB x y = false from by simpa using mt smB_iff.1 (fun h => h2 (by omega))]
      go_enter Tryz.func69, Tryz.ntmps69
      go_wp2_with fail
      go_ret
      exact ⟨rfl, below_al below_rf⟩
  · rw [show smB x y = false from by simpa using mt smB_iff.1 (fun h => h1 (by omega))]
    go_enter Tryz.func69, Tryz.ntmps69
    go_wp2_with fail
    go_ret
    exact ⟨rfl, below_al below_rf⟩
set_option maxHeartbeats 4000000 in
set_option maxRecDepth 100000 in
theorem plane_Complex (x y : Int) (w : World) :
    Calls Tryz.prog 47 #[.agg #[.int .i64 x, .int .i64 y]] w fun e w' => e = .returned (.complex .f64 (FloatKind.f64.nearest x) (FloatKind.f64.nearest y)) ∧ Below w.heap.size w w' := by
  go_enter Tryz.func47, Tryz.ntmps47
  go_wp2_with fail
  go_ret
  exact ⟨rfl, below_al below_rf⟩
theorem run_neg_f64 {P : Program} (q : Nat) (w : World) : Sem.run P (Op.unary .neg (.float .f64 q)) w = .ok (.float .f64 (Op.negFloat .f64 q)) w := rfl
set_option maxHeartbeats 4000000 in
set_option maxRecDepth 100000 in
theorem plane_conj (p q : Nat) (w : World) :
    Calls Tryz.prog 48 #[.complex .f64 p q] w fun e w' => e = .returned (.complex .f64 p (Op.negFloat .f64 q)) ∧ Below w.heap.size w w' := by
  have hn := fun w => run_neg_f64 (P := Tryz.prog) q w
  go_enter Tryz.func48, Tryz.ntmps48
  go_wp2_with fail
  go_ret
  exact ⟨rfl, below_rf⟩
/-- the first bad point -/
def sm3 (f g : Nat → Int) : Bool := smB (f 0) (g 0) && smB (f 1) (g 1) && smB (f 2) (g 2)
def errS (b : Bool) : Int := if b then 0 else 3
set_option maxHeartbeats 4000000 in
set_option maxRecDepth 100000 in
theorem plane_small (A : Option Addr) (c : Nat) (f g : Nat → Int) (w : World) (hp : Pts w A 3 c f g) :
    Calls Tryz.prog 46 #[.slice A 3 c] w fun e w' => e = .returned (.int .i64 (errS (sm3 f g))) ∧ Below w.heap.size w w' := by
  have HP := Lib.hid hp
  have HBW := Lib.hid (show w.heap.size ≤ w.heap.size from Nat.le_refl _)
  have hcp := hp.cap
  have hmx := hp.max
  clear hp
  unfold maxLen at hmx
  go_enter Tryz.func46, Tryz.ntmps46
  go_wp2_with fail
  go_loopw [7] (fun ir wr => ∃ k : Nat, k ≤ 3 ∧ ir = .int .i64 (k : Int) ∧ (∀ i, i < k → smB (f i) (g i) = true) ∧ Below w.heap.size w wr) (fun i _ => 3 - (intOf i).toNat)
  case atStart => exact ⟨0, by decide, rfl, fun i hi => absurd hi (by omega), below_rf⟩
  case round =>
    obtain ⟨k, hk, rfl, hs, hb⟩ := hrel
    have HB := Lib.hid hb; have HS := Lib.hid hs; clear hb hs
    by_cases hlt : k < 3
    · obtain ⟨b, off, rfl, hbl, hc⟩ := HP.out.at_ (by omega)
      have p0 : wr.cell? ⟨b, off + k * 2, none⟩ = some (.int .i64 (f k)) := (HB.out.cell (p := ⟨b, off + k * 2, none⟩) hbl).trans (hc k hlt).1
      have p1 : wr.cell? ⟨b, off + k * 2 + 1, none⟩ = some (.int .i64 (g k)) := (HB.out.cell (p := ⟨b, off + k * 2 + 1, none⟩) hbl).trans (hc k hlt).2
      clear hc hbl
      have hms := Lib.hid (show 3 - (intOf (.int .i64 ((k : Int) + 1))).toNat < 3 - (intOf (.int .i64 (k : Int))).toNat from by simp [intOf]; omega)
      go_wp2_with fail
      have HB1 := Lib.hid (HB.out.trans ((show Below wr.heap.size wr (wr.alloc (.cells #[.int .i64 (f k), .int .i64 (g k)] 23)) from below_al below_rf).mono HB.out.size))
      refine (plane_IsSmall (f k) (g k) _).mono ?_
      rintro e w2 ⟨rfl, B⟩
      have HB2 := Lib.hid (HB1.out.trans (B.mono HB1.out.size)); clear B HB1
      cases hk2 : smB (f k) (g k)
      · have hr := Lib.hid <| show Value.int .i64 (errS (sm3 f g)) = .int .i64 3 from by
          have : sm3 f g = false := by
            have : k = 0 ∨ k = 1 ∨ k = 2 := by omega
            rcases this with rfl | rfl | rfl <;> simp [sm3, hk2]
          rw [this]; rfl
        go_wp2_with fail
        go_ret
        exact ⟨congrArg Ending.returned hr.out.symm, HB2.out⟩
      · go_wp2_with fail
        go_roundw
        case rel => exact ⟨k + 1, hlt, by go_num, fun i hi => by
          by_cases hik : i < k
          · exact HS.out i hik
          · obtain rfl : i = k := by omega
            exact hk2, HB2.out⟩
        case measure => exact hms.out
    · obtain rfl : k = 3 := by omega
      have hr := Lib.hid <| show Value.int .i64 (errS (sm3 f g)) = .int .i64 0 from by
        have : sm3 f g = true := by simp [sm3, HS.out 0 (by omega), HS.out 1 (by omega), HS.out 2 (by omega)]
        rw [this]; rfl
      go_wp2_with fail
      go_ret
      exact ⟨congrArg Ending.returned hr.out.symm, HB.out⟩
theorem cSum_some {r s a b c d : Nat} (h1 : Ieee.double.sub a c = some r) (h2 : Ieee.double.sub b d = some s) : cSumBits .sub .f64 a b c d = some (r, s) := by
  unfold cSumBits floatBits
  show (Ieee.double.sub a c).bind _ = _
  rw [h1]
  show ((Ieee.double.sub b d).bind _) = _
  rw [h2]; rfl
theorem cMul_some {a b c d x1 x2 x3 x4 x5 x6 : Nat} (h1 : Ieee.double.mul a c = some x1) (h2 : Ieee.double.mul b d = some x2) (h3 : Ieee.double.sub x1 x2 = some x3)
    (h4 : Ieee.double.mul a d = some x4) (h5 : Ieee.double.mul b c = some x5) (h6 : Ieee.double.add x4 x5 = some x6) : cMulBits a b c d = some (x3, x6) := by
  unfold cMulBits floatBits
  show (Ieee.double.mul a c).bind _ = _
  rw [h1]
  show (Ieee.double.mul b d).bind _ = _
  rw [h2]
  show (Ieee.double.sub x1 x2).bind _ = _
  rw [h3]
  show (Ieee.double.mul a d).bind _ = _
  rw [h4]
  show (Ieee.double.mul b c).bind _ = _
  rw [h5]
  show (Ieee.double.add x4 x5).bind _ = _
  rw [h6]; rfl
theorem mul_bound {a b : Int} (ha : -33554432 ≤ a ∧ a ≤ 33554432) (hb : -33554432 ≤ b ∧ b ≤ 33554432) : -1125899906842624 ≤ a * b ∧ a * b ≤ 1125899906842624 := by
  have := abs_mul_le (a := 33554432) (b := 33554432) ⟨ha.1, ha.2⟩ ⟨hb.1, hb.2⟩
  exact this
theorem natAbs_le {n : Int} {k : Nat} (h : -(k : Int) ≤ n ∧ n ≤ k) : n.natAbs ≤ k := by omega
theorem lt53 {n : Int} (h : -2251799813685248 ≤ n ∧ n ≤ 2251799813685248) : n.natAbs < 2 ^ 53 := by
  have : n.natAbs ≤ 2251799813685248 := natAbs_le (k := 2251799813685248) h
  have e : (2 : Nat) ^ 53 = 9007199254740992 := by decide
  omega
theorem small_vals {x0 y0 x1 y1 x2 y2 : Int} (h0 : smB x0 y0 = true) (h1 : smB x1 y1 = true) (h2 : smB x2 y2 = true) :
    ∃ u1 u2 v1 v2 z1 z2, cSumBits .sub .f64 (FloatKind.f64.nearest x1) (FloatKind.f64.nearest y1) (FloatKind.f64.nearest x0) (FloatKind.f64.nearest y0) = some (u1, u2) ∧
      cSumBits .sub .f64 (FloatKind.f64.nearest x2) (FloatKind.f64.nearest y2) (FloatKind.f64.nearest x0) (FloatKind.f64.nearest y0) = some (v1, v2) ∧
      cMulBits u1 (Op.negFloat .f64 u2) v1 v2 = some (z1, z2) ∧ Ieee.double.order z2 0 = some (compare (det x0 y0 x1 y1 x2 y2) 0) := by
  obtain ⟨⟨p1, p2⟩, p3, p4⟩ := smB_iff.1 h0
  obtain ⟨⟨q1, q2⟩, q3, q4⟩ := smB_iff.1 h1
  obtain ⟨⟨r1, r2⟩, r3, r4⟩ := smB_iff.1 h2
  have E : ∀ n : Int, -16777216 ≤ n → n ≤ 16777216 → Enc (FloatKind.f64.nearest n) n := fun n a b => enc_int (lt53 ⟨by omega, by omega⟩)
  have W : ∀ n : Int, -16777216 ≤ n → n ≤ 16777216 → n.natAbs < 2 ^ 53 := fun n a b => lt53 ⟨by omega, by omega⟩
  have b1 : -33554432 ≤ x1 - x0 ∧ x1 - x0 ≤ 33554432 := by omega
  have b2 : -33554432 ≤ y1 - y0 ∧ y1 - y0 ≤ 33554432 := by omega
  have b3 : -33554432 ≤ x2 - x0 ∧ x2 - x0 ≤ 33554432 := by omega
  have b4 : -33554432 ≤ y2 - y0 ∧ y2 - y0 ≤ 33554432 := by omega
  have b5 : -33554432 ≤ -(y1 - y0) ∧ -(y1 - y0) ≤ 33554432 := by omega
  have W2 : ∀ n : Int, (-33554432 ≤ n ∧ n ≤ 33554432) → n.natAbs < 2 ^ 53 := fun n a => lt53 ⟨by omega, by omega⟩
  have W3 : ∀ n : Int, (-1125899906842624 ≤ n ∧ n ≤ 1125899906842624) → n.natAbs < 2 ^ 53 := fun n a => lt53 ⟨by omega, by omega⟩
  obtain ⟨u1, hu1, eu1⟩ := enc_sub (E x1 q1 q2) (E x0 p1 p2) (W x1 q1 q2) (W x0 p1 p2) (W2 _ b1)
  obtain ⟨u2, hu2, eu2⟩ := enc_sub (E y1 q3 q4) (E y0 p3 p4) (W y1 q3 q4) (W y0 p3 p4) (W2 _ b2)
  obtain ⟨v1, hv1, ev1⟩ := enc_sub (E x2 r1 r2) (E x0 p1 p2) (W x2 r1 r2) (W x0 p1 p2) (W2 _ b3)
  obtain ⟨v2, hv2, ev2⟩ := enc_sub (E y2 r3 r4) (E y0 p3 p4) (W y2 r3 r4) (W y0 p3 p4) (W2 _ b4)
  have en := enc_neg eu2 (W2 _ b2)
  have m1 := mul_bound b1 b3
  have m2 := mul_bound b5 b4
  have m3 := mul_bound b1 b4
  have m4 := mul_bound b5 b3
  obtain ⟨k1, hk1, ek1⟩ := enc_mul eu1 ev1 (W2 _ b1) (W2 _ b3) (W3 _ m1)
  obtain ⟨k2, hk2, ek2⟩ := enc_mul en ev2 (W2 _ b5) (W2 _ b4) (W3 _ m2)
  obtain ⟨k3, hk3, ek3⟩ := enc_sub ek1 ek2 (W3 _ m1) (W3 _ m2) (lt53 ⟨by omega, by omega⟩)
  obtain ⟨k4, hk4, ek4⟩ := enc_mul eu1 ev2 (W2 _ b1) (W2 _ b4) (W3 _ m3)
  obtain ⟨k5, hk5, ek5⟩ := enc_mul en ev1 (W2 _ b5) (W2 _ b3) (W3 _ m4)
  have m6 : -2251799813685248 ≤ (x1 - x0) * (y2 - y0) + -(y1 - y0) * (x2 - x0) ∧ (x1 - x0) * (y2 - y0) + -(y1 - y0) * (x2 - x0) ≤ 2251799813685248 := ⟨by omega, by omega⟩
  obtain ⟨k6, hk6, ek6⟩ := enc_add ek4 ek5 (W3 _ m3) (W3 _ m4) (lt53 m6)
  have hd : (x1 - x0) * (y2 - y0) + -(y1 - y0) * (x2 - x0) = det x0 y0 x1 y1 x2 y2 := by unfold det; rw [Int.neg_mul]; rfl
  have e0 : Enc 0 0 := ⟨false, rfl, by omega, fun _ => rfl⟩
  have ho := enc_order ek6 e0 (lt53 m6) (by decide)
  rw [hd] at ho
  exact ⟨u1, u2, v1, v2, k3, k6, cSum_some hu1 hu2, cSum_some hv1 hv2, cMul_some hk1 hk2 hk3 hk4 hk5 hk6, ho⟩
end Go.Proofs.YtjdiilkljgljkaaGreatDoor
namespace Go.Proofs.YtjdiilkljgljkaaGreatDoor
set_option linter.unusedVariables false
set_option linter.unusedSimpArgs false
open Go.RowKit Wd


set_option maxHeartbeats 4000000 in
set_option maxRecDepth 100000 in
theorem plane_Orient_big (x0 y0 x1 y1 x2 y2 : Int) (hp : P3 x0 y0 x1 y1 x2 y2) (hsm : (smB x0 y0 && smB x1 y1 && smB x2 y2) = false) (w : World) :
    Calls Tryz.prog 26 #[.agg #[.int .i64 x0, .int .i64 y0], .agg #[.int .i64 x1, .int .i64 y1], .agg #[.int .i64 x2, .int .i64 y2]] w fun e w' => e = .returned (.tuple #[.int .i64 0, .int .i64 3]) ∧ Below w.heap.size w w' := by
  have HP3 := Lib.hid hp; clear hp
  have HB0 := Lib.hid (Below.refl w.heap.size w)
  have HE := Lib.hid (show errS (sm3 (sel3 x0 x1 x2) (sel3 y0 y1 y2)) = 3 from by rw [show sm3 (sel3 x0 x1 x2) (sel3 y0 y1 y2) = (smB x0 y0 && smB x1 y1 && smB x2 y2) from rfl, hsm]; rfl)
  clear hsm
  go_enter Tryz.func26, Tryz.ntmps26
  go_wp2_with fail
  have B : Below w.heap.size w ((((w.alloc (.cells #[.int .i64 x0, .int .i64 y0] 23)).alloc (.cells #[.int .i64 x1, .int .i64 y1] 23)).alloc (.cells #[.int .i64 x2, .int .i64 y2] 23)).alloc (.cells #[.int .i64 x0, .int .i64 y0, .int .i64 x1, .int .i64 y1, .int .i64 x2, .int .i64 y2] 23)) := ((((HB0.out.alloc HB0.out.size _).alloc (HB0.out.alloc HB0.out.size _).size _).alloc ((HB0.out.alloc HB0.out.size _).alloc (HB0.out.alloc HB0.out.size _).size _).size _).alloc (((HB0.out.alloc HB0.out.size _).alloc (HB0.out.alloc HB0.out.size _).size _).alloc ((HB0.out.alloc HB0.out.size _).alloc (HB0.out.alloc HB0.out.size _).size _).size _).size _)
  have C : Below w.heap.size w ((((w.alloc (.cells #[.int .i64 x0, .int .i64 y0] 23)).alloc (.cells #[.int .i64 x1, .int .i64 y1] 23)).alloc (.cells #[.int .i64 x2, .int .i64 y2] 23)).alloc (.cells #[.int .i64 x0, .int .i64 y0, .int .i64 x1, .int .i64 y1, .int .i64 x2, .int .i64 y2] 23)) := (((((Below.refl w.heap.size w).alloc (Nat.le_refl _) _).alloc (by simp; try omega) _).alloc (by simp; try omega) _).alloc (by simp; try omega) _)
  have X0 : Bx ((((w.alloc (.cells #[.int .i64 x0, .int .i64 y0] 23)).alloc (.cells #[.int .i64 x1, .int .i64 y1] 23)).alloc (.cells #[.int .i64 x2, .int .i64 y2] 23)).alloc (.cells #[.int .i64 x0, .int .i64 y0, .int .i64 x1, .int .i64 y1, .int .i64 x2, .int .i64 y2] 23)) (w.heap.size) #[.int .i64 x0, .int .i64 y0] 23 := by simpa using ((((Bx.new w #[.int .i64 x0, .int .i64 y0] 23).alloc _).alloc _).alloc _)
  have X1 : Bx ((((w.alloc (.cells #[.int .i64 x0, .int .i64 y0] 23)).alloc (.cells #[.int .i64 x1, .int .i64 y1] 23)).alloc (.cells #[.int .i64 x2, .int .i64 y2] 23)).alloc (.cells #[.int .i64 x0, .int .i64 y0, .int .i64 x1, .int .i64 y1, .int .i64 x2, .int .i64 y2] 23)) (w.heap.size + 1) #[.int .i64 x1, .int .i64 y1] 23 := by simpa using (((Bx.new (w.alloc (.cells #[.int .i64 x0, .int .i64 y0] 23)) #[.int .i64 x1, .int .i64 y1] 23).alloc _).alloc _)
  have X2 : Bx ((((w.alloc (.cells #[.int .i64 x0, .int .i64 y0] 23)).alloc (.cells #[.int .i64 x1, .int .i64 y1] 23)).alloc (.cells #[.int .i64 x2, .int .i64 y2] 23)).alloc (.cells #[.int .i64 x0, .int .i64 y0, .int .i64 x1, .int .i64 y1, .int .i64 x2, .int .i64 y2] 23)) (w.heap.size + 1 + 1) #[.int .i64 x2, .int .i64 y2] 23 := by simpa using ((Bx.new ((w.alloc (.cells #[.int .i64 x0, .int .i64 y0] 23)).alloc (.cells #[.int .i64 x1, .int .i64 y1] 23)) #[.int .i64 x2, .int .i64 y2] 23).alloc _)
  have X3 : Bx ((((w.alloc (.cells #[.int .i64 x0, .int .i64 y0] 23)).alloc (.cells #[.int .i64 x1, .int .i64 y1] 23)).alloc (.cells #[.int .i64 x2, .int .i64 y2] 23)).alloc (.cells #[.int .i64 x0, .int .i64 y0, .int .i64 x1, .int .i64 y1, .int .i64 x2, .int .i64 y2] 23)) (w.heap.size + 1 + 1 + 1) #[.int .i64 x0, .int .i64 y0, .int .i64 x1, .int .i64 y1, .int .i64 x2, .int .i64 y2] 23 := by simpa using (Bx.new (((w.alloc (.cells #[.int .i64 x0, .int .i64 y0] 23)).alloc (.cells #[.int .i64 x1, .int .i64 y1] 23)).alloc (.cells #[.int .i64 x2, .int .i64 y2] 23)) #[.int .i64 x0, .int .i64 y0, .int .i64 x1, .int .i64 y1, .int .i64 x2, .int .i64 y2] 23)
  have HB1 := Lib.hid B
  have FA_1 := Lib.hid X0
  have FB_1 := Lib.hid X1
  have FC_1 := Lib.hid X2
  have FV_1 := Lib.hid X3
  clear B C X0 X1 X2 X3 HB0 
  generalize ((((w.alloc (.cells #[.int .i64 x0, .int .i64 y0] 23)).alloc (.cells #[.int .i64 x1, .int .i64 y1] 23)).alloc (.cells #[.int .i64 x2, .int .i64 y2] 23)).alloc (.cells #[.int .i64 x0, .int .i64 y0, .int .i64 x1, .int .i64 y1, .int .i64 x2, .int .i64 y2] 23)) = w1 at *
  have HPT := Lib.hid (FV_1.out.pts3 HP3.out)
  skip
  refine (plane_small _ 3 _ _ _ HPT.out).mono ?_
  rintro e w2 ⟨rfl, B⟩
  have HB2 := Lib.hid (HB1.out.trans (B.mono HB1.out.size))
  have FA_2 := Lib.hid (FA_1.out.below B (Nat.le_refl _))
  have FB_2 := Lib.hid (FB_1.out.below B (Nat.le_refl _))
  have FC_2 := Lib.hid (FC_1.out.below B (Nat.le_refl _))
  have FV_2 := Lib.hid (HPT.out.below B (Nat.le_refl _))
  clear B  HB1 FA_1 FB_1 FC_1 HPT
  rw [HE.out]
  go_wp2_with fail
  go_ret2
  exact ⟨rfl, HB2.out⟩
set_option maxHeartbeats 4000000 in
set_option maxRecDepth 100000 in
theorem plane_Orient_small (x0 y0 x1 y1 x2 y2 : Int) (hp : P3 x0 y0 x1 y1 x2 y2) (hsm : (smB x0 y0 && smB x1 y1 && smB x2 y2) = true) (w : World) :
    Calls Tryz.prog 26 #[.agg #[.int .i64 x0, .int .i64 y0], .agg #[.int .i64 x1, .int .i64 y1], .agg #[.int .i64 x2, .int .i64 y2]] w fun e w' => e = .returned (.tuple #[.int .i64 (sg (det x0 y0 x1 y1 x2 y2)), .int .i64 0]) ∧ Below w.heap.size w w' := by
  have HP3 := Lib.hid hp; clear hp
  have HB0 := Lib.hid (Below.refl w.heap.size w)
  have HE := Lib.hid (show errS (sm3 (sel3 x0 x1 x2) (sel3 y0 y1 y2)) = 0 from by rw [show sm3 (sel3 x0 x1 x2) (sel3 y0 y1 y2) = (smB x0 y0 && smB x1 y1 && smB x2 y2) from rfl, hsm]; rfl)
  rw [Bool.and_eq_true, Bool.and_eq_true] at hsm
  obtain ⟨u1, u2, v1, v2, z1, z2, hu, hv, hz, ho⟩ := small_vals hsm.1.1 hsm.1.2 hsm.2; clear hsm
  have hs1 := fun t w => run_complex_sum (P := Tryz.prog) w .sub (.inr rfl) t .f64 _ _ _ _ _ _ hu
  have hs2 := fun t w => run_complex_sum (P := Tryz.prog) w .sub (.inr rfl) t .f64 _ _ _ _ _ _ hv
  have hs3 := fun t w => run_complex_mul (P := Tryz.prog) w t _ _ _ _ _ _ hz
  clear hu hv hz
  have HO := Lib.hid ho; clear ho
  go_enter Tryz.func26, Tryz.ntmps26
  go_wp2_with fail
  have B : Below w.heap.size w ((((w.alloc (.cells #[.int .i64 x0, .int .i64 y0] 23)).alloc (.cells #[.int .i64 x1, .int .i64 y1] 23)).alloc (.cells #[.int .i64 x2, .int .i64 y2] 23)).alloc (.cells #[.int .i64 x0, .int .i64 y0, .int .i64 x1, .int .i64 y1, .int .i64 x2, .int .i64 y2] 23)) := ((((HB0.out.alloc HB0.out.size _).alloc (HB0.out.alloc HB0.out.size _).size _).alloc ((HB0.out.alloc HB0.out.size _).alloc (HB0.out.alloc HB0.out.size _).size _).size _).alloc (((HB0.out.alloc HB0.out.size _).alloc (HB0.out.alloc HB0.out.size _).size _).alloc ((HB0.out.alloc HB0.out.size _).alloc (HB0.out.alloc HB0.out.size _).size _).size _).size _)
  have C : Below w.heap.size w ((((w.alloc (.cells #[.int .i64 x0, .int .i64 y0] 23)).alloc (.cells #[.int .i64 x1, .int .i64 y1] 23)).alloc (.cells #[.int .i64 x2, .int .i64 y2] 23)).alloc (.cells #[.int .i64 x0, .int .i64 y0, .int .i64 x1, .int .i64 y1, .int .i64 x2, .int .i64 y2] 23)) := (((((Below.refl w.heap.size w).alloc (Nat.le_refl _) _).alloc (by simp; try omega) _).alloc (by simp; try omega) _).alloc (by simp; try omega) _)
  have X0 : Bx ((((w.alloc (.cells #[.int .i64 x0, .int .i64 y0] 23)).alloc (.cells #[.int .i64 x1, .int .i64 y1] 23)).alloc (.cells #[.int .i64 x2, .int .i64 y2] 23)).alloc (.cells #[.int .i64 x0, .int .i64 y0, .int .i64 x1, .int .i64 y1, .int .i64 x2, .int .i64 y2] 23)) (w.heap.size) #[.int .i64 x0, .int .i64 y0] 23 := by simpa using ((((Bx.new w #[.int .i64 x0, .int .i64 y0] 23).alloc _).alloc _).alloc _)
  have X1 : Bx ((((w.alloc (.cells #[.int .i64 x0, .int .i64 y0] 23)).alloc (.cells #[.int .i64 x1, .int .i64 y1] 23)).alloc (.cells #[.int .i64 x2, .int .i64 y2] 23)).alloc (.cells #[.int .i64 x0, .int .i64 y0, .int .i64 x1, .int .i64 y1, .int .i64 x2, .int .i64 y2] 23)) (w.heap.size + 1) #[.int .i64 x1, .int .i64 y1] 23 := by simpa using (((Bx.new (w.alloc (.cells #[.int .i64 x0, .int .i64 y0] 23)) #[.int .i64 x1, .int .i64 y1] 23).alloc _).alloc _)
  have X2 : Bx ((((w.alloc (.cells #[.int .i64 x0, .int .i64 y0] 23)).alloc (.cells #[.int .i64 x1, .int .i64 y1] 23)).alloc (.cells #[.int .i64 x2, .int .i64 y2] 23)).alloc (.cells #[.int .i64 x0, .int .i64 y0, .int .i64 x1, .int .i64 y1, .int .i64 x2, .int .i64 y2] 23)) (w.heap.size + 1 + 1) #[.int .i64 x2, .int .i64 y2] 23 := by simpa using ((Bx.new ((w.alloc (.cells #[.int .i64 x0, .int .i64 y0] 23)).alloc (.cells #[.int .i64 x1, .int .i64 y1] 23)) #[.int .i64 x2, .int .i64 y2] 23).alloc _)
  have X3 : Bx ((((w.alloc (.cells #[.int .i64 x0, .int .i64 y0] 23)).alloc (.cells #[.int .i64 x1, .int .i64 y1] 23)).alloc (.cells #[.int .i64 x2, .int .i64 y2] 23)).alloc (.cells #[.int .i64 x0, .int .i64 y0, .int .i64 x1, .int .i64 y1, .int .i64 x2, .int .i64 y2] 23)) (w.heap.size + 1 + 1 + 1) #[.int .i64 x0, .int .i64 y0, .int .i64 x1, .int .i64 y1, .int .i64 x2, .int .i64 y2] 23 := by simpa using (Bx.new (((w.alloc (.cells #[.int .i64 x0, .int .i64 y0] 23)).alloc (.cells #[.int .i64 x1, .int .i64 y1] 23)).alloc (.cells #[.int .i64 x2, .int .i64 y2] 23)) #[.int .i64 x0, .int .i64 y0, .int .i64 x1, .int .i64 y1, .int .i64 x2, .int .i64 y2] 23)
  have HB1 := Lib.hid B
  have FA_1 := Lib.hid X0
  have FB_1 := Lib.hid X1
  have FC_1 := Lib.hid X2
  have FV_1 := Lib.hid X3
  clear B C X0 X1 X2 X3 HB0 
  generalize ((((w.alloc (.cells #[.int .i64 x0, .int .i64 y0] 23)).alloc (.cells #[.int .i64 x1, .int .i64 y1] 23)).alloc (.cells #[.int .i64 x2, .int .i64 y2] 23)).alloc (.cells #[.int .i64 x0, .int .i64 y0, .int .i64 x1, .int .i64 y1, .int .i64 x2, .int .i64 y2] 23)) = w1 at *
  have HPT := Lib.hid (FV_1.out.pts3 HP3.out)
  skip
  refine (plane_small _ 3 _ _ _ HPT.out).mono ?_
  rintro e w2 ⟨rfl, B⟩
  have HB2 := Lib.hid (HB1.out.trans (B.mono HB1.out.size))
  have FA_2 := Lib.hid (FA_1.out.below B (Nat.le_refl _))
  have FB_2 := Lib.hid (FB_1.out.below B (Nat.le_refl _))
  have FC_2 := Lib.hid (FC_1.out.below B (Nat.le_refl _))
  have FV_2 := Lib.hid (HPT.out.below B (Nat.le_refl _))
  clear B  HB1 FA_1 FB_1 FC_1 HPT
  rw [HE.out]
  go_wp2_with fail
  skip
  refine (wpIn_wide (n := 0)).1 ?_
  refine wpIn_region_any (by kernel_rfl) ?_
  change wpAnyIn _ _ _ _ _ _ _ _ _ (World.drew _)
  have RB2 := Lib.hid (below_drew0 w2)
  refine wpAnyIn_tail WideF.wide (fun a b => Below a.heap.size a b) (fun _ => below_rf) (fun _ _ _ h k => below_tr h k) [⟨0, 20, fun z_ _ => z_ = .agg #[.int .i64 x1, .int .i64 y1]⟩, ⟨1, 21, fun z_ _ => z_ = .complex .f64 (FloatKind.f64.nearest x1) (FloatKind.f64.nearest y1)⟩, ⟨2, 22, fun z_ _ => z_ = .agg #[.int .i64 x0, .int .i64 y0]⟩, ⟨3, 23, fun z_ _ => z_ = .complex .f64 (FloatKind.f64.nearest x0) (FloatKind.f64.nearest y0)⟩, ⟨4, 24, fun z_ _ => z_ = .complex .f64 u1 u2⟩, ⟨5, 25, fun z_ _ => z_ = .agg #[.int .i64 x2, .int .i64 y2]⟩, ⟨6, 26, fun z_ _ => z_ = .complex .f64 (FloatKind.f64.nearest x2) (FloatKind.f64.nearest y2)⟩, ⟨7, 27, fun z_ _ => z_ = .agg #[.int .i64 x0, .int .i64 y0]⟩, ⟨8, 28, fun z_ _ => z_ = .complex .f64 (FloatKind.f64.nearest x0) (FloatKind.f64.nearest y0)⟩, ⟨9, 29, fun z_ _ => z_ = .complex .f64 v1 v2⟩, ⟨10, 9, fun z_ _ => z_ = .complex .f64 u1 u2⟩, ⟨11, 10, fun z_ _ => z_ = .complex .f64 v1 v2⟩] 12 (by kernel_rfl) ?_ ?_ ?_
  · refine ⟨?_, ?_, ?_, ?_, ?_, ?_, ?_, ?_, ?_, ?_, ?_, ?_, trivial⟩
    all_goals (intro x w w' hb h; first | exact h | (obtain ⟨b_, h1, h2⟩ := h; exact ⟨b_, h1, h2.below hb (Nat.le_refl _)⟩))
  · refine ⟨?_, ?_, ?_, ?_, ?_, ?_, ?_, ?_, ?_, ?_, ?_, ?_, trivial⟩
    · intro a wz K hb ht hd hK
      have hbw := Lib.hid (below_tr RB2.out hb); clear hb
      have hx4 := (ht 4 rfl).trans rfl
      have es4 : a.tmps.getD 4 undef = _ := getD_of hx4; clear hx4
      clear ht hd
      have zc0 := (FB_2.out.below hbw.out (Nat.le_refl _)).cell 0 (v := .int .i64 x1) rfl
      have zc1 := (FB_2.out.below hbw.out (Nat.le_refl _)).cell 1 (v := .int .i64 y1) rfl
      have HK := Lib.hid hK; clear hK
      refine wpOpP_step (by simp only [List.getElem?_toArray, List.getElem?_cons_succ, List.getElem?_cons_zero]; rfl) (fun K' hK' => ?_)
      have HK' := Lib.hid hK'; clear hK'
      go_simp
      exact HK'.out _ _ (HK.out _ _ below_rf rfl)
    · intro a wz K hb ht hd hK
      have hbw := Lib.hid (below_tr RB2.out hb); clear hb
      obtain ⟨x20, hx20, hp20⟩ := hd 0 _ rfl (by kernel_rfl)
      obtain rfl := hp20
      have es20 : a.tmps.getD 20 undef = _ := getD_of hx20; clear hx20
      clear ht hd
      have HK := Lib.hid hK; clear hK
      refine wpOpP_step (by simp only [List.getElem?_toArray, List.getElem?_cons_succ, List.getElem?_cons_zero]; rfl) (fun K' hK' => ?_)
      have HK' := Lib.hid hK'; clear hK'
      go_simp
      refine (plane_Complex x1 y1 _).mono ?_
      rintro e w1 ⟨rfl, B⟩
      go_wp2_with fail
      exact HK'.out _ _ (HK.out _ _ B rfl)
    · intro a wz K hb ht hd hK
      have hbw := Lib.hid (below_tr RB2.out hb); clear hb
      have hx3 := (ht 3 rfl).trans rfl
      have es3 : a.tmps.getD 3 undef = _ := getD_of hx3; clear hx3
      clear ht hd
      have zc0 := (FA_2.out.below hbw.out (Nat.le_refl _)).cell 0 (v := .int .i64 x0) rfl
      have zc1 := (FA_2.out.below hbw.out (Nat.le_refl _)).cell 1 (v := .int .i64 y0) rfl
      have HK := Lib.hid hK; clear hK
      refine wpOpP_step (by simp only [List.getElem?_toArray, List.getElem?_cons_succ, List.getElem?_cons_zero]; rfl) (fun K' hK' => ?_)
      have HK' := Lib.hid hK'; clear hK'
      go_simp
      exact HK'.out _ _ (HK.out _ _ below_rf rfl)
    · intro a wz K hb ht hd hK
      have hbw := Lib.hid (below_tr RB2.out hb); clear hb
      obtain ⟨x22, hx22, hp22⟩ := hd 2 _ rfl (by kernel_rfl)
      obtain rfl := hp22
      have es22 : a.tmps.getD 22 undef = _ := getD_of hx22; clear hx22
      clear ht hd
      have HK := Lib.hid hK; clear hK
      refine wpOpP_step (by simp only [List.getElem?_toArray, List.getElem?_cons_succ, List.getElem?_cons_zero]; rfl) (fun K' hK' => ?_)
      have HK' := Lib.hid hK'; clear hK'
      go_simp
      refine (plane_Complex x0 y0 _).mono ?_
      rintro e w1 ⟨rfl, B⟩
      go_wp2_with fail
      exact HK'.out _ _ (HK.out _ _ B rfl)
    · intro a wz K hb ht hd hK
      have hbw := Lib.hid (below_tr RB2.out hb); clear hb
      obtain ⟨x21, hx21, hp21⟩ := hd 1 _ rfl (by kernel_rfl)
      obtain rfl := hp21
      have es21 : a.tmps.getD 21 undef = _ := getD_of hx21; clear hx21
      obtain ⟨x23, hx23, hp23⟩ := hd 3 _ rfl (by kernel_rfl)
      obtain rfl := hp23
      have es23 : a.tmps.getD 23 undef = _ := getD_of hx23; clear hx23
      clear ht hd
      have HK := Lib.hid hK; clear hK
      refine wpOpP_step (by simp only [List.getElem?_toArray, List.getElem?_cons_succ, List.getElem?_cons_zero]; rfl) (fun K' hK' => ?_)
      have HK' := Lib.hid hK'; clear hK'
      go_simp
      exact HK'.out _ _ (HK.out _ _ below_rf rfl)
    · intro a wz K hb ht hd hK
      have hbw := Lib.hid (below_tr RB2.out hb); clear hb
      have hx5 := (ht 5 rfl).trans rfl
      have es5 : a.tmps.getD 5 undef = _ := getD_of hx5; clear hx5
      clear ht hd
      have zc0 := (FC_2.out.below hbw.out (Nat.le_refl _)).cell 0 (v := .int .i64 x2) rfl
      have zc1 := (FC_2.out.below hbw.out (Nat.le_refl _)).cell 1 (v := .int .i64 y2) rfl
      have HK := Lib.hid hK; clear hK
      refine wpOpP_step (by simp only [List.getElem?_toArray, List.getElem?_cons_succ, List.getElem?_cons_zero]; rfl) (fun K' hK' => ?_)
      have HK' := Lib.hid hK'; clear hK'
      go_simp
      exact HK'.out _ _ (HK.out _ _ below_rf rfl)
    · intro a wz K hb ht hd hK
      have hbw := Lib.hid (below_tr RB2.out hb); clear hb
      obtain ⟨x25, hx25, hp25⟩ := hd 5 _ rfl (by kernel_rfl)
      obtain rfl := hp25
      have es25 : a.tmps.getD 25 undef = _ := getD_of hx25; clear hx25
      clear ht hd
      have HK := Lib.hid hK; clear hK
      refine wpOpP_step (by simp only [List.getElem?_toArray, List.getElem?_cons_succ, List.getElem?_cons_zero]; rfl) (fun K' hK' => ?_)
      have HK' := Lib.hid hK'; clear hK'
      go_simp
      refine (plane_Complex x2 y2 _).mono ?_
      rintro e w1 ⟨rfl, B⟩
      go_wp2_with fail
      exact HK'.out _ _ (HK.out _ _ B rfl)
    · intro a wz K hb ht hd hK
      have hbw := Lib.hid (below_tr RB2.out hb); clear hb
      have hx3 := (ht 3 rfl).trans rfl
      have es3 : a.tmps.getD 3 undef = _ := getD_of hx3; clear hx3
      clear ht hd
      have zc0 := (FA_2.out.below hbw.out (Nat.le_refl _)).cell 0 (v := .int .i64 x0) rfl
      have zc1 := (FA_2.out.below hbw.out (Nat.le_refl _)).cell 1 (v := .int .i64 y0) rfl
      have HK := Lib.hid hK; clear hK
      refine wpOpP_step (by simp only [List.getElem?_toArray, List.getElem?_cons_succ, List.getElem?_cons_zero]; rfl) (fun K' hK' => ?_)
      have HK' := Lib.hid hK'; clear hK'
      go_simp
      exact HK'.out _ _ (HK.out _ _ below_rf rfl)
    · intro a wz K hb ht hd hK
      have hbw := Lib.hid (below_tr RB2.out hb); clear hb
      obtain ⟨x27, hx27, hp27⟩ := hd 7 _ rfl (by kernel_rfl)
      obtain rfl := hp27
      have es27 : a.tmps.getD 27 undef = _ := getD_of hx27; clear hx27
      clear ht hd
      have HK := Lib.hid hK; clear hK
      refine wpOpP_step (by simp only [List.getElem?_toArray, List.getElem?_cons_succ, List.getElem?_cons_zero]; rfl) (fun K' hK' => ?_)
      have HK' := Lib.hid hK'; clear hK'
      go_simp
      refine (plane_Complex x0 y0 _).mono ?_
      rintro e w1 ⟨rfl, B⟩
      go_wp2_with fail
      exact HK'.out _ _ (HK.out _ _ B rfl)
    · intro a wz K hb ht hd hK
      have hbw := Lib.hid (below_tr RB2.out hb); clear hb
      obtain ⟨x26, hx26, hp26⟩ := hd 6 _ rfl (by kernel_rfl)
      obtain rfl := hp26
      have es26 : a.tmps.getD 26 undef = _ := getD_of hx26; clear hx26
      obtain ⟨x28, hx28, hp28⟩ := hd 8 _ rfl (by kernel_rfl)
      obtain rfl := hp28
      have es28 : a.tmps.getD 28 undef = _ := getD_of hx28; clear hx28
      clear ht hd
      have HK := Lib.hid hK; clear hK
      refine wpOpP_step (by simp only [List.getElem?_toArray, List.getElem?_cons_succ, List.getElem?_cons_zero]; rfl) (fun K' hK' => ?_)
      have HK' := Lib.hid hK'; clear hK'
      go_simp
      exact HK'.out _ _ (HK.out _ _ below_rf rfl)
    · intro a wz K hb ht hd hK
      have hbw := Lib.hid (below_tr RB2.out hb); clear hb
      obtain ⟨x24, hx24, hp24⟩ := hd 4 _ rfl (by kernel_rfl)
      obtain rfl := hp24
      have es24 : a.tmps.getD 24 undef = _ := getD_of hx24; clear hx24
      clear ht hd
      have HK := Lib.hid hK; clear hK
      refine wpOpP_step (by simp only [List.getElem?_toArray, List.getElem?_cons_succ, List.getElem?_cons_zero]; rfl) (fun K' hK' => ?_)
      have HK' := Lib.hid hK'; clear hK'
      go_simp
      exact HK'.out _ _ (HK.out _ _ below_rf rfl)
    · intro a wz K hb ht hd hK
      have hbw := Lib.hid (below_tr RB2.out hb); clear hb
      obtain ⟨x29, hx29, hp29⟩ := hd 9 _ rfl (by kernel_rfl)
      obtain rfl := hp29
      have es29 : a.tmps.getD 29 undef = _ := getD_of hx29; clear hx29
      clear ht hd
      have HK := Lib.hid hK; clear hK
      refine wpOpP_step (by simp only [List.getElem?_toArray, List.getElem?_cons_succ, List.getElem?_cons_zero]; rfl) (fun K' hK' => ?_)
      have HK' := Lib.hid hK'; clear hK'
      go_simp
      exact HK'.out _ _ (HK.out _ _ below_rf rfl)
  intro w3 X hb hv
  simp only [List.foldl_cons, List.foldl_nil, Act.put, List.setIfInBounds_toArray, List.set_cons_zero, List.set_cons_succ, List.toList_toArray, List.drop_succ_cons, List.drop_zero]
  obtain ⟨hv0, hv1, hv2, hv3, hv4, hv5, hv6, hv7, hv8, hv9, hv10, hv11, -⟩ := hv
  have hV0 : (fun z_ _ => z_ = .agg #[.int .i64 x1, .int .i64 y1]) (X 20) w3 := hv0; clear hv0; have hv0 := hV0; clear hV0; generalize X 20 = X20 at *
  have hV1 : (fun z_ _ => z_ = .complex .f64 (FloatKind.f64.nearest x1) (FloatKind.f64.nearest y1)) (X 21) w3 := hv1; clear hv1; have hv1 := hV1; clear hV1; generalize X 21 = X21 at *
  have hV2 : (fun z_ _ => z_ = .agg #[.int .i64 x0, .int .i64 y0]) (X 22) w3 := hv2; clear hv2; have hv2 := hV2; clear hV2; generalize X 22 = X22 at *
  have hV3 : (fun z_ _ => z_ = .complex .f64 (FloatKind.f64.nearest x0) (FloatKind.f64.nearest y0)) (X 23) w3 := hv3; clear hv3; have hv3 := hV3; clear hV3; generalize X 23 = X23 at *
  have hV4 : (fun z_ _ => z_ = .complex .f64 u1 u2) (X 24) w3 := hv4; clear hv4; have hv4 := hV4; clear hV4; generalize X 24 = X24 at *
  have hV5 : (fun z_ _ => z_ = .agg #[.int .i64 x2, .int .i64 y2]) (X 25) w3 := hv5; clear hv5; have hv5 := hV5; clear hV5; generalize X 25 = X25 at *
  have hV6 : (fun z_ _ => z_ = .complex .f64 (FloatKind.f64.nearest x2) (FloatKind.f64.nearest y2)) (X 26) w3 := hv6; clear hv6; have hv6 := hV6; clear hV6; generalize X 26 = X26 at *
  have hV7 : (fun z_ _ => z_ = .agg #[.int .i64 x0, .int .i64 y0]) (X 27) w3 := hv7; clear hv7; have hv7 := hV7; clear hV7; generalize X 27 = X27 at *
  have hV8 : (fun z_ _ => z_ = .complex .f64 (FloatKind.f64.nearest x0) (FloatKind.f64.nearest y0)) (X 28) w3 := hv8; clear hv8; have hv8 := hV8; clear hV8; generalize X 28 = X28 at *
  have hV9 : (fun z_ _ => z_ = .complex .f64 v1 v2) (X 29) w3 := hv9; clear hv9; have hv9 := hV9; clear hV9; generalize X 29 = X29 at *
  have hV10 : (fun z_ _ => z_ = .complex .f64 u1 u2) (X 9) w3 := hv10; clear hv10; have hv10 := hV10; clear hV10; generalize X 9 = X9 at *
  have hV11 : (fun z_ _ => z_ = .complex .f64 v1 v2) (X 10) w3 := hv11; clear hv11; have hv11 := hV11; clear hV11; generalize X 10 = X10 at *
  obtain rfl := hv0
  obtain rfl := hv1
  obtain rfl := hv2
  obtain rfl := hv3
  obtain rfl := hv4
  obtain rfl := hv5
  obtain rfl := hv6
  obtain rfl := hv7
  obtain rfl := hv8
  obtain rfl := hv9
  obtain rfl := hv10
  obtain rfl := hv11
  have RC := Lib.hid (below_tr RB2.out hb); clear hb
  have FA_3 := Lib.hid (FA_2.out.below RC.out (Nat.le_refl _))
  have FB_3 := Lib.hid (FB_2.out.below RC.out (Nat.le_refl _))
  have FC_3 := Lib.hid (FC_2.out.below RC.out (Nat.le_refl _))
  have HB3 := Lib.hid (HB2.out.trans (RC.out.mono HB2.out.size))
  clear HB2 FA_2 FB_2 FC_2 RB2
  refine wpListIn_nil ?_
  clear hs1 hs2
  go_wp2_with fail
  refine (plane_conj u1 u2 _).mono ?_
  rintro e w4 ⟨rfl, B⟩
  have HB4 := Lib.hid (HB3.out.trans (B.mono HB3.out.size))
  have FA_4 := Lib.hid (FA_3.out.below B (Nat.le_refl _))
  have FB_4 := Lib.hid (FB_3.out.below B (Nat.le_refl _))
  have FC_4 := Lib.hid (FC_3.out.below B (Nat.le_refl _))
  clear B  HB3 FA_3 FB_3 FC_3
  rcases Int.lt_trichotomy (det x0 y0 x1 y1 x2 y2) 0 with hd | hd | hd
  · have ho : FloatKind.f64.format.order z2 0 = some .lt := by have := HO.out; rw [show compare (det x0 y0 x1 y1 x2 y2) 0 = .lt from Int.compare_eq_lt.2 hd] at this; exact this
    have hs := Lib.hid (show -1 = sg (det x0 y0 x1 y1 x2 y2) from (Int.sign_eq_neg_one_of_neg hd).symm)
    clear hd
    go_wp2_with fail
    go_ret2
    exact ⟨show Ending.returned (Value.tuple #[.int .i64 (-1), .int .i64 0]) = _ from by rw [← hs.out], HB4.out⟩
  · have ho : FloatKind.f64.format.order z2 0 = some .eq := by have := HO.out; rw [show compare (det x0 y0 x1 y1 x2 y2) 0 = .eq from Int.compare_eq_eq.2 hd] at this; exact this
    have hs := Lib.hid (show 0 = sg (det x0 y0 x1 y1 x2 y2) from by rw [hd]; rfl)
    clear hd
    go_wp2_with fail
    go_ret2
    exact ⟨show Ending.returned (Value.tuple #[.int .i64 (0), .int .i64 0]) = _ from by rw [← hs.out], HB4.out⟩
  · have ho : FloatKind.f64.format.order z2 0 = some .gt := by have := HO.out; rw [show compare (det x0 y0 x1 y1 x2 y2) 0 = .gt from Int.compare_eq_gt.2 hd] at this; exact this
    have hs := Lib.hid (show 1 = sg (det x0 y0 x1 y1 x2 y2) from (Int.sign_eq_one_of_pos hd).symm)
    clear hd
    go_wp2_with fail
    go_ret2
    exact ⟨show Ending.returned (Value.tuple #[.int .i64 (1), .int .i64 0]) = _ from by rw [← hs.out], HB4.out⟩
end Go.Proofs.YtjdiilkljgljkaaGreatDoor
namespace Go.Proofs.YtjdiilkljgljkaaGreatDoor
def sg0 : List Char := List.map Char.ofNat [104, 97, 114, 110, 101, 115, 115]
def sg1 : List Char := List.map Char.ofNat [49, 50, 51, 50, 57, 97, 55, 99, 54, 55, 55, 48, 57, 97, 57, 51, 57, 48, 51, 98, 49, 54, 101, 53, 50, 52, 100, 56, 57, 50, 55, 57, 97, 54, 99, 97, 50, 102, 98, 50, 97, 49, 56, 48, 99, 53, 55, 48, 54, 98, 98, 98, 52, 55, 52, 101, 48, 100, 50, 49, 101, 97, 101, 101]
def sg2 : List Char := List.map Char.ofNat [99, 117, 116]
def sgr : List Char := List.map Char.ofNat [97, 116, 32, 103, 101, 111, 102, 101, 110, 99, 101, 47, 103, 101, 111, 102, 101, 110, 99, 101, 116, 111, 112, 46, 84, 111, 112, 79, 114, 105, 101, 110, 116, 32, 103, 101, 111, 102, 101, 110, 99, 101, 47, 103, 101, 111, 102, 101, 110, 99, 101, 116, 111, 112, 46, 84, 111, 112, 67, 105, 114, 99, 108, 101, 32, 103, 101, 111, 102, 101, 110, 99, 101, 47, 103, 101, 111, 102, 101, 110, 99, 101, 116, 111, 112, 46, 84, 111, 112, 70, 101, 110, 99, 101, 32, 103, 101, 111, 102, 101, 110, 99, 101, 47, 103, 101, 111, 102, 101, 110, 99, 101, 116, 111, 112, 46, 84, 111, 112, 66, 97, 116, 99, 104, 32, 103, 101, 111, 102, 101, 110, 99, 101, 47, 103, 101, 111, 102, 101, 110, 99, 101, 116, 111, 112, 46, 84, 111, 112, 83, 109, 97, 108, 108]
theorem ws_word (r : List Char) : ∀ l : List Char, (l.all fun c => c != Char.ofNat 32) = true → wordsSigns (l ++ Char.ofNat 32 :: r) = l :: wordsSigns r
  | [], _ => rfl
  | c :: l, h => by
    rw [List.all_cons, Bool.and_eq_true] at h
    have ih := ws_word r l h.2
    have hc : c ≠ Char.ofNat 32 := by simpa using h.1
    show wordsSigns (c :: (l ++ Char.ofNat 32 :: r)) = _
    rw [wordsSigns, ih]
    exact hc
theorem io1 : Tryz.prog.initOrder = "harness 12329a7c67709a93903b16e524d89279a6ca2fb2a180c5706bbb474e0d21eaee cut at geofence/geofencetop.TopOrient geofence/geofencetop.TopCircle geofence/geofencetop.TopFence geofence/geofencetop.TopBatch geofence/geofencetop.TopSmall" := by kernel_rfl
theorem io2 : "harness 12329a7c67709a93903b16e524d89279a6ca2fb2a180c5706bbb474e0d21eaee cut at geofence/geofencetop.TopOrient geofence/geofencetop.TopCircle geofence/geofencetop.TopFence geofence/geofencetop.TopBatch geofence/geofencetop.TopSmall" = String.ofList (sg0 ++ Char.ofNat 32 :: (sg1 ++ Char.ofNat 32 :: (sg2 ++ Char.ofNat 32 :: sgr))) := by kernel_rfl
theorem io : wordsSigns Tryz.prog.initOrder.toList = sg0 :: sg1 :: sg2 :: wordsSigns sgr := by
  rw [io1, io2, String.toList_ofList, ws_word _ sg0 (by kernel_rfl), ws_word _ sg1 (by kernel_rfl), ws_word _ sg2 (by kernel_rfl)]
theorem sg0Is : sg0 = "harness".toList := by kernel_rfl
theorem sg2Is : sg2 = "cut".toList := by kernel_rfl
theorem sumIs : isSumSigns sg1 = true := by kernel_rfl
theorem strip_cut (R : List (List Char)) : stripLifts liftWords ("cut".toList :: R) = ([], "cut".toList :: R) := by kernel_rfl
section
variable {P : Program} {R : List (List Char)} (hw : wordsSigns P.initOrder.toList = "harness".toList :: sg1 :: "cut".toList :: R)
include hw
theorem behind_of : behindMainWord (wordsSigns P.initOrder.toList) = "cut".toList :: R := by
  rw [hw, behindMainWord, sumIs]; simp
theorem make_of : P.make = some .cut := by unfold Program.make; rw [behind_of hw]; simp
theorem head_of : P.headLifts = [] := by unfold Program.headLifts; rw [behind_of hw, strip_cut]; simp
theorem lifts_of : P.liftsFinal = false := by unfold Program.liftsFinal; rw [behind_of hw, head_of hw]; simp
theorem enter_of (h1 : P.laysLater = false) (h2 : P.bearsReflect = false) (h3 : P.doorFits [] = true) : P.mayEnter = true := by
  unfold Program.mayEnter; rw [behind_of hw]; simp only [strip_cut, h1, h2, h3]; simp
theorem main_of : P.mainIs = some (true, sg1) := by unfold Program.mainIs; rw [hw]; simp [sumIs]
end
theorem ioh : wordsSigns Tryz.prog.initOrder.toList = "harness".toList :: sg1 :: "cut".toList :: wordsSigns sgr := by rw [io, sg0Is, sg2Is]
theorem makeIs : Tryz.prog.make = some .cut := make_of ioh
theorem liftsIs : Tryz.prog.liftsFinal = false := lifts_of ioh
theorem laysIs : Tryz.prog.laysLater = false := by kernel_rfl
theorem bearsIs : Tryz.prog.bearsReflect = false := by kernel_rfl
theorem doorIs : Tryz.prog.doorFits [] = true := by kernel_rfl
theorem enterIs : Tryz.prog.mayEnter = true := enter_of ioh laysIs bearsIs doorIs
theorem mainIs : Tryz.prog.mainIs = some (true, sg1) := main_of ioh
theorem sumText : sg1 = String.toList "12329a7c67709a93903b16e524d89279a6ca2fb2a180c5706bbb474e0d21eaee" := by rw [show "12329a7c67709a93903b16e524d89279a6ca2fb2a180c5706bbb474e0d21eaee" = String.ofList sg1 from by kernel_rfl, String.toList_ofList]
theorem mainText : Tryz.pinned.checked.prog.mainIs = some (true, String.toList "12329a7c67709a93903b16e524d89279a6ca2fb2a180c5706bbb474e0d21eaee") := mainIs.trans (by rw [sumText])
end Go.Proofs.YtjdiilkljgljkaaGreatDoor
namespace Go.Proofs.YtjdiilkljgljkaaGreatDoor
theorem laid_tail {P : Program} {W : World} {x : String × DataW Unit} {rest : List (String × DataW Unit)} (h : laidMet P (x :: rest) W) : laidMet P rest W := by
  obtain ⟨ps, ⟨g', t', cs, fuel, p, q, hg', ht', hvar, hd, hr, hps⟩, hn, hc⟩ := h
  subst hps
  exact ⟨q, hr, (List.nodup_append.1 hn).2.1, fun b off hm => hc b off (List.mem_append.2 (.inr hm))⟩
end Go.Proofs.YtjdiilkljgljkaaGreatDoor
