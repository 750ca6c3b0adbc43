/- half, at even coordinates. -/
import Derived.Test.YtoikcgmdlccdbaaDoorLaw14
import Derived.Test.YtoikcgmdlccdbaaDoorPolyP
namespace Go.Proofs.YtoikcgmdlccdbaaDoor
set_option linter.unusedVariables false
set_option linter.unusedSimpArgs false
open Go.RowKit Wd

theorem andNot1_ {x : Int} (hx : IsI x) : bits .andNot .i64 x 1 = 2 * (x / 2) := by
  show IntKind.i64.wrap ((BitVec.ofInt 64 x &&& ~~~BitVec.ofInt 64 ((1 : Nat) : Int)).toNat : Int) = _
  rw [BitVec.toNat_and, BitVec.toNat_not, ofInt_u64 1 (by omega)]
  have e : 2 ^ 64 - 1 - 1 = 18446744073709551614 := by decide
  rw [e, nat_hi64_1, IntKind.wrap_i64]
  have hn : ((BitVec.ofInt 64 x).toNat : Int) = x % 18446744073709551616 := by rw [BitVec.toNat_ofInt]; omega
  unfold IsI at hx; omega
theorem half_w {x y : Int} (hx : IsI (2 * x)) (hy : IsI (2 * y)) : wrap64 x = x ∧ wrap64 y = y ∧ wrap64 (x + y) = x + y ∧ IntKind.i64.wrap (x + y) = x + y ∧ IsI (x + y) ∧ IntKind.i64.wrap x = x ∧ IntKind.i64.wrap y = y := by
  unfold IsI at *
  have e1 : IntKind.i64.wrap x = x := by rw [IntKind.wrap_i64]; omega
  have e2 : IntKind.i64.wrap y = y := by rw [IntKind.wrap_i64]; omega
  have e3 : IntKind.i64.wrap (x + y) = x + y := by rw [IntKind.wrap_i64]; omega
  refine ⟨?_, ?_, ?_, e3, by omega, e1, e2⟩ <;> rw [← IntWalk.i64_left] <;> assumption
theorem even_isI {x : Int} (h : IsI x) : IsI (2 * (x / 2)) := by unfold IsI at *; omega
set_option maxHeartbeats 4000000 in
theorem law14_half (x0 y0 x1 y1 : Int) (h0 : IsI (2 * x0)) (h1 : IsI (2 * y0)) (h2 : IsI (2 * x1)) (h3 : IsI (2 * y1)) (w : World) :
    Calls Tryd.prog 47 #[.agg #[.int .i64 (2 * x0), .int .i64 (2 * y0)], .agg #[.int .i64 (2 * x1), .int .i64 (2 * y1)]] w fun e w' => e = .returned (.agg #[.int .i64 (x0 + x1), .int .i64 (y0 + y1)]) ∧ Below w.heap.size w w' := by
  obtain ⟨a1, a2, a3, a4, -, a6, a7⟩ := half_w h0 h2
  obtain ⟨b1, b2, b3, b4, -, b6, b7⟩ := half_w h1 h3
  have t0 : (2 * x0).tdiv 2 = x0 := Int.mul_tdiv_cancel_left x0 (by decide)
  have t1 : (2 * y0).tdiv 2 = y0 := Int.mul_tdiv_cancel_left y0 (by decide)
  have t2 : (2 * x1).tdiv 2 = x1 := Int.mul_tdiv_cancel_left x1 (by decide)
  have t3 : (2 * y1).tdiv 2 = y1 := Int.mul_tdiv_cancel_left y1 (by decide)
  clear h0 h1 h2 h3
  go_enter Tryd.func47, Tryd.ntmps47
  go_wp2_with fail
  refine bodyPost_ret (v := .agg #[.int .i64 (x0 + x1), .int .i64 (y0 + y1)]) (by simp [results, Tryd.results47, go_sem]) rfl ⟨rfl, ?_⟩
  repeat (first | exact below_rf | (refine below_st ?_ ?_; (focus (first | (simp; done) | omega | (simp <;> omega)))) | refine below_al ?_)
end Go.Proofs.YtoikcgmdlccdbaaDoor
