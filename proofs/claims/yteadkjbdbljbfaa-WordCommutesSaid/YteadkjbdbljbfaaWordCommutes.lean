/- WordCommutes: for every input the law returns true, and each argument reads afterwards as it read before. -/
import Derived.Test.YteadkjbdbljbfaaRows
import Derived.Test.YteadkjbdbljbfaaAlive2
import Derived.Test.YteadkjbdbljbfaaOpen
import Derived.WalkKit
import Derived.ProofKit
import Derived.OpenShut
import Derived.Below
namespace Go.Proofs.Yteadkjbdbljbfaa.wordCommutes
open Go.ChangeShapes Go.WideShapes Go.ChangeAt Go.RowKit Wd
set_option linter.unusedVariables false
set_option linter.unusedSimpArgs false

theorem own : ownKnob Try.prog.godebug = none := by kernel_rfl
theorem laidOut : laidOutB Try.prog = true := by kernel_rfl

theorem walk (a0 : Int) (w0 : (Lit.int .u64 a0).wf = true) (a1 : Int) (w1 : (Lit.int .u64 a1).wf = true) (a2 : Int) (w2 : (Lit.int .u64 a2).wf = true) (w : World) :
    Calls Try.prog 8 #[.int .u64 a0, .int .u64 a1, .int .u64 a2] w fun e w' => e = .returned (.bool true) ∧ Below w.heap.size w w' := by
  have i0 := isW_of_wf w0
  have i1 := isW_of_wf w1
  have i2 := isW_of_wf w2
  have hp := isW_lt_mul i0 i1
  have hst := mulAdd_steps hp i2 (by unfold IsW; omega : IsW 0)
  have z0 : IsW 0 := by unfold IsW; omega
  have e1 : hi (a0 * a1 + a2 + 0) = lo (hi (a0 * a1) + (lo (a0 * a1) + a2) / 18446744073709551616) := by
    rw [← hst.2]; generalize a0 * a1 = p at *; unfold IsW lo hi at *; omega
  have e2 : lo (a0 * a1 + a2 + 0) = lo (lo (a0 * a1) + a2) := by generalize a0 * a1 = p at *; unfold lo; omega
  have hk : 0 ≤ (lo (a0 * a1) + a2) / 18446744073709551616 ∧ (lo (a0 * a1) + a2) / 18446744073709551616 ≤ 1 := by have := isW_lo (a0 * a1); unfold IsW at *; omega
  have E1 := Lib.hid e1; have E2 := Lib.hid e2; clear e1 e2 hst hp
  go_enter Try.func8, Try.ntmps8
  go_wp2_with fail
  refine (word_Add _ _ _ i0 i1 i2 _).mono ?_
  rintro e w' ⟨rfl, rfl⟩
  go_wp2_with fail
  refine (word_Add _ _ _ i1 i0 i2 _).mono ?_
  rintro e w' ⟨rfl, rfl⟩
  rw [Int.add_comm a1 a0]
  go_wp2_with fail
  refine (word_Mul _ _ i0 i1 _).mono ?_
  rintro e w' ⟨rfl, rfl⟩
  go_wp2_with fail
  refine (word_Mul _ _ i1 i0 _).mono ?_
  rintro e w' ⟨rfl, rfl⟩
  rw [Int.mul_comm a1 a0]
  go_wp2_with fail
  refine (word_MulAdd _ _ _ _ i0 i1 i2 z0 _).mono ?_
  rintro e w' ⟨rfl, rfl⟩
  rw [E1.out, E2.out]
  go_wp2_with fail
  refine (word_Add0 _ _ (isW_lo _) i2 _).mono ?_
  rintro e w' ⟨rfl, rfl⟩
  go_wp2_with fail
  refine (word_AddC _ _ (isW_hi _) hk _).mono ?_
  rintro e w' ⟨rfl, rfl⟩
  go_wp2_with fail
  refine (alive2 _).mono ?_
  rintro e w' ⟨rfl, hal⟩
  go_wp2_with fail
  go_ret
  exact ⟨rfl, hal⟩

set_option maxRecDepth 100000 in
theorem lifted (os : Os) (started : os.Started) (H : Type) (enc : TypeId × Value → H) :
    ReturnsInHanded {} Try.checked os 8 .any (Rows.wordCommutesSpec.pre6 enc Try.prog Try.f8 Rows.wordCommutesRow.domain false) (Rows.wordCommutesSpec.post enc Try.prog Try.f8 false true false false) := by
  refine returnsInHanded_of_change (C := Try.checked) own started (by kernel_rfl) Try.func8
    (ChangeSpec.witness6 (enc := enc) (C := Try.checked) false ⟨#[], #[.int .u64 0, .int .u64 0, .int .u64 0], []⟩ 8 (by kernel_rfl) (by kernel_rfl) (by kernel_rfl) (by kernel_rfl)) ?_
  intro W base args ds gs before hval0 hW hcnd _
  have hval : ∀ (j : Nat) t v, Try.f8.params[j]? = some t → args[j]? = some v → Value.okWide Try.prog W .any base t v := hval0
  have hW' := hW
  obtain ⟨p, q, hA0, hV, rfl, hfz, hnd⟩ := hW
  have hA : DataW.TrodAll enc Try.prog W 0 (fun _ => true) true Try.f8.params.toList args.toList ds p := hA0
  rw [Try.params8] at hA hval
  obtain ⟨v0, vs0, d0, ds0, p0, q0, hargs, rfl, rfl, h0, r0⟩ := trodAll_cons hA
  obtain ⟨v1, vs1, d1, ds1, p1, q1, rfl, rfl, rfl, h1, r1⟩ := trodAll_cons r0
  obtain ⟨v2, vs2, d2, ds2, p2, q2, rfl, rfl, rfl, h2, r2⟩ := trodAll_cons r1
  obtain ⟨rfl, rfl, rfl⟩ := trodAll_nil r2
  obtain rfl : args = #[v0, v1, v2] := by cases args; simp_all
  obtain ⟨rfl, rfl⟩ := trodVars_none hV
  have k0 := h0
  have lt0 : ∀ x ∈ p0, x.block < W.heap.size := by obtain ⟨m, hm⟩ := k0; exact DataW.trod_lt m _ _ _ hm
  have k1 := h1
  have lt1 : ∀ x ∈ p1, x.block < W.heap.size := by obtain ⟨m, hm⟩ := k1; exact DataW.trod_lt m _ _ _ hm
  have k2 := h2
  have lt2 : ∀ x ∈ p2, x.block < W.heap.size := by obtain ⟨m, hm⟩ := k2; exact DataW.trod_lt m _ _ _ hm
  obtain ⟨a0, rfl, rfl, rfl, w0⟩ := open_int Try.underlying22 (hval 0 22 v0 rfl rfl) h0
  obtain ⟨a1, rfl, rfl, rfl, w1⟩ := open_int Try.underlying22 (hval 1 22 v1 rfl rfl) h1
  obtain ⟨a2, rfl, rfl, rfl, w2⟩ := open_int Try.underlying22 (hval 2 22 v2 rfl rfl) h2
  clear hA0 hval0
  refine (walk a0 w0 a1 w1 a2 w2 W).mono fun e W' ⟨he, bel⟩ => ?_
  subst he
  exact ⟨_, rfl, _, _, _, [], _, [], hW', trodAll_mk1 (shut_bool Try.underlying4 _), (trodAll_cons_mk (Below.trod laidOut (by kernel_rfl) (of_decide_eq_true (by kernel_rfl)) k0 bel lt0) (trodAll_cons_mk (Below.trod laidOut (by kernel_rfl) (of_decide_eq_true (by kernel_rfl)) k1 bel lt1) (trodAll_cons_mk (Below.trod laidOut (by kernel_rfl) (of_decide_eq_true (by kernel_rfl)) k2 bel lt2) trodAll_mk0))), rfl, bel.frame _, fun h => by cases h⟩

theorem over : Rows.wordCommutesRow.holds Try.pinned (OpenSpec.ofChange Rows.wordCommutesSpec) :=
  OpenClaim.holds_of_wide 8 Try.f8 rfl rfl rfl rfl rfl rfl rfl ⟨rfl, rfl, rfl, rfl, rfl⟩ rfl rfl rfl rfl rfl (by kernel_rfl) Try.func8 (by kernel_rfl)
    (of_decide_eq_true (by kernel_rfl)) (by unfold Func.isWrapper; first | (rw [if_pos (by decide +kernel)]; kernel_rfl) | (rw [if_neg (by decide +kernel)]; exact ⟨rfl, rfl⟩))
    (fun os started H enc _ => lifted os started H enc)

/-- THE STATEMENT -/
theorem proved : Rows.WordCommutesSaid := over
#print axioms proved
end Go.Proofs.Yteadkjbdbljbfaa.wordCommutes
