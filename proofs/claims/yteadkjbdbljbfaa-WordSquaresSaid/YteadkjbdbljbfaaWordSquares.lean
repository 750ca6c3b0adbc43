/- WordSquares: for every input the law returns true, and each argument reads afterwards as it read before. -/
import Derived.Test.YteadkjbdbljbfaaRows
import Derived.Test.YteadkjbdbljbfaaAlive2
import Derived.Test.YteadkjbdbljbfaaOpen
import Derived.WalkKit
import Derived.ProofKit
import Derived.OpenShut
import Derived.Below
namespace Go.Proofs.Yteadkjbdbljbfaa.wordSquares
open Go.ChangeShapes Go.WideShapes Go.ChangeAt Go.RowKit Wd
set_option linter.unusedVariables false
set_option linter.unusedSimpArgs false

theorem own : ownKnob Try.prog.godebug = none := by kernel_rfl
theorem laidOut : laidOutB Try.prog = true := by kernel_rfl

theorem walk (a0 : Int) (w0 : (Lit.int .i64 a0).wf = true) (w : World) :
    Calls Try.prog 4 #[.int .i64 a0] w fun e w' => e = .returned (.bool true) ∧ Below w.heap.size w w' := by
  have i0 := isI_of_wf w0
  have z0 : IsW 0 := by unfold IsW; omega
  by_cases hm : a0 = -9223372036854775808
  · subst hm
    have e1 : hi (-9223372036854775808 * -9223372036854775808) = 4611686018427387904 := by unfold hi; omega
    have e2 : lo (-9223372036854775808 * -9223372036854775808) = 0 := by unfold lo; omega
    have E1 := Lib.hid e1; have E2 := Lib.hid e2; clear e1 e2
    have e3 : IntKind.i64.wrap (9223372036854775808) = -9223372036854775808 := rfl
    go_enter Try.func4, Try.ntmps4
    go_wp2_with fail
    refine (word_MulSigned _ _ i0 i0 _).mono ?_
    rintro e w' ⟨rfl, hb1⟩
    rw [E1.out, E2.out]
    go_wp2_with fail
    refine (word_MulSigned _ _ i0 i0 _).mono ?_
    rintro e w' ⟨rfl, hb2⟩
    rw [E1.out, E2.out]
    go_wp2_with fail
    refine (word_Add0 _ _ (by first | exact xor_w (by unfold IsW; decide) z0 | (unfold IsW; decide)) (by unfold IsW; omega) _).mono ?_
    rintro e w' ⟨rfl, rfl⟩
    go_wp2_with fail
    refine (word_AddC _ _ (by first | exact xor_w (by unfold IsW; decide) (by unfold IsW; decide) | (unfold IsW; decide)) (by first | decide | (rw [not_w z0]; decide)) _).mono ?_
    rintro e w' ⟨rfl, rfl⟩
    go_wp2_with fail
    refine (alive2 _).mono ?_
    rintro e w' ⟨rfl, hal⟩
    go_wp2_with fail
    go_ret
    exact ⟨rfl, (hb1.trans (hb2.mono hb1.size)).trans (hal.mono (hb1.trans (hb2.mono hb1.size)).size)⟩
  · have e3 : IntKind.i64.wrap (-a0) = -a0 := by rw [IntKind.wrap_i64]; unfold IsI at i0; omega
    have i1 : IsI (-a0) := by unfold IsI at *; omega
    have bd := sq_bd i0
    have hs := neg_split (a0 * a0)
    have e1 : lo (-a0 * a0) = lo (18446744073709551615 - lo (a0 * a0) + 1) := by rw [Int.neg_mul]; exact hs.1.symm
    have e2 : hi (-a0 * a0) = lo (18446744073709551615 - hi (a0 * a0) + (18446744073709551615 - lo (a0 * a0) + 1) / 18446744073709551616) := by rw [Int.neg_mul]; exact hs.2.symm
    have e4 : msk (decide (9223372036854775808 ≤ hi (a0 * a0))) = 0 := by
      rw [decide_eq_false (by generalize a0 * a0 = p at *; unfold hi; omega)]; rfl
    have hm' : (a0 == -9223372036854775808) = false := by simpa using hm
    have wl := isW_lo (a0 * a0)
    have wh := isW_hi (a0 * a0)
    have E1 := Lib.hid e1; have E2 := Lib.hid e2; have E4 := Lib.hid e4; clear e1 e2 e4 hs bd
    go_enter Try.func4, Try.ntmps4
    go_wp2_with fail
    refine (word_MulSigned _ _ i0 i0 _).mono ?_
    rintro e w' ⟨rfl, hb1⟩
    go_wp2_with fail
    try rw [e3]
    refine (word_MulSigned _ _ i1 i0 _).mono ?_
    rintro e w' ⟨rfl, hb2⟩
    rw [E1.out, E2.out]
    go_wp2_with fail
    rw [not_w wl]
    refine (word_Add0 _ _ (by unfold IsW at *; omega) (by unfold IsW; omega) _).mono ?_
    rintro e w' ⟨rfl, rfl⟩
    go_wp2_with fail
    rw [not_w wh]
    refine (word_AddC _ _ (by unfold IsW at *; omega) (by unfold IsW at *; omega) _).mono ?_
    rintro e w' ⟨rfl, rfl⟩
    go_wp2_with fail
    refine (alive2 _).mono ?_
    rintro e w' ⟨rfl, hal⟩
    go_wp2_with fail
    refine (word_Fill _ wh _).mono ?_
    rintro e w' ⟨rfl, rfl⟩
    rw [E4.out]
    go_wp2_with fail
    go_ret
    exact ⟨rfl, (hb1.trans (hb2.mono hb1.size)).trans (hal.mono (hb1.trans (hb2.mono hb1.size)).size)⟩

set_option maxRecDepth 100000 in
theorem lifted (os : Os) (started : os.Started) (H : Type) (enc : TypeId × Value → H) :
    ReturnsInHanded {} Try.checked os 4 .any (Rows.wordSquaresSpec.pre6 enc Try.prog Try.f4 Rows.wordSquaresRow.domain false) (Rows.wordSquaresSpec.post enc Try.prog Try.f4 false true false false) := by
  refine returnsInHanded_of_change (C := Try.checked) own started (by kernel_rfl) Try.func4
    (ChangeSpec.witness6 (enc := enc) (C := Try.checked) false ⟨#[], #[.int .i64 0], []⟩ 8 (by kernel_rfl) (by kernel_rfl) (by kernel_rfl) (by kernel_rfl)) ?_
  intro W base args ds gs before hval0 hW hcnd _
  have hval : ∀ (j : Nat) t v, Try.f4.params[j]? = some t → args[j]? = some v → Value.okWide Try.prog W .any base t v := hval0
  have hW' := hW
  obtain ⟨p, q, hA0, hV, rfl, hfz, hnd⟩ := hW
  have hA : DataW.TrodAll enc Try.prog W 0 (fun _ => true) true Try.f4.params.toList args.toList ds p := hA0
  rw [Try.params4] at hA hval
  obtain ⟨v0, vs0, d0, ds0, p0, q0, hargs, rfl, rfl, h0, r0⟩ := trodAll_cons hA
  obtain ⟨rfl, rfl, rfl⟩ := trodAll_nil r0
  obtain rfl : args = #[v0] := by cases args; simp_all
  obtain ⟨rfl, rfl⟩ := trodVars_none hV
  have k0 := h0
  have lt0 : ∀ x ∈ p0, x.block < W.heap.size := by obtain ⟨m, hm⟩ := k0; exact DataW.trod_lt m _ _ _ hm
  obtain ⟨a0, rfl, rfl, rfl, w0⟩ := open_int Try.underlying2 (hval 0 2 v0 rfl rfl) h0
  clear hA0 hval0
  refine (walk a0 w0 W).mono fun e W' ⟨he, bel⟩ => ?_
  subst he
  exact ⟨_, rfl, _, _, _, [], _, [], hW', trodAll_mk1 (shut_bool Try.underlying4 _), (trodAll_cons_mk (Below.trod laidOut (by kernel_rfl) (of_decide_eq_true (by kernel_rfl)) k0 bel lt0) trodAll_mk0), rfl, bel.frame _, fun h => by cases h⟩

theorem over : Rows.wordSquaresRow.holds Try.pinned (OpenSpec.ofChange Rows.wordSquaresSpec) :=
  OpenClaim.holds_of_wide 4 Try.f4 rfl rfl rfl rfl rfl rfl rfl ⟨rfl, rfl, rfl, rfl, rfl⟩ rfl rfl rfl rfl rfl (by kernel_rfl) Try.func4 (by kernel_rfl)
    (of_decide_eq_true (by kernel_rfl)) (by unfold Func.isWrapper; first | (rw [if_pos (by decide +kernel)]; kernel_rfl) | (rw [if_neg (by decide +kernel)]; exact ⟨rfl, rfl⟩))
    (fun os started H enc _ => lifted os started H enc)

/-- THE STATEMENT -/
theorem proved : Rows.WordSquaresSaid := over
#print axioms proved
end Go.Proofs.Yteadkjbdbljbfaa.wordSquares
