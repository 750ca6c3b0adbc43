/- WordMultiplies: for every input the law returns true, and each argument reads afterwards as it read before. -/
import Derived.Test.YteadkjbdbljbfaaRows
import Derived.Test.YteadkjbdbljbfaaAlive2
import Derived.Test.YteadkjbdbljbfaaOpen
import Derived.WalkKit
import Derived.ProofKit
import Derived.OpenShut
import Derived.Below
namespace Go.Proofs.Yteadkjbdbljbfaa.wordMultiplies
open Go.ChangeShapes Go.WideShapes Go.ChangeAt Go.RowKit Wd
set_option linter.unusedVariables false
set_option linter.unusedSimpArgs false

theorem own : ownKnob Try.prog.godebug = none := by kernel_rfl
theorem laidOut : laidOutB Try.prog = true := by kernel_rfl

theorem walk (a0 b0 : Int) (w0 : (Lit.int .u64 a0).wf = true) (x0 : (Lit.int .u64 b0).wf = true) (a1 b1 : Int) (w1 : (Lit.int .u64 a1).wf = true) (x1 : (Lit.int .u64 b1).wf = true) (a2 b2 : Int) (w2 : (Lit.int .u64 a2).wf = true) (x2 : (Lit.int .u64 b2).wf = true) (w : World) :
    Calls Try.prog 7 #[.agg #[.int .u64 a0, .int .u64 b0], .agg #[.int .u64 a1, .int .u64 b1], .agg #[.int .u64 a2, .int .u64 b2]] w fun e w' => e = .returned (.bool true) ∧ Below w.heap.size w w' := by
  have i0 := isW_of_wf w0
  have j0 := isW_of_wf x0
  have i1 := isW_of_wf w1
  have j1 := isW_of_wf x1
  have i2 := isW_of_wf w2
  have j2 := isW_of_wf x2
  go_enter Try.func7, Try.ntmps7
  go_wp2_with fail
  refine (word_MulAdd _ _ _ _ i0 i1 i2 j2 _).mono ?_
  rintro e w' ⟨rfl, rfl⟩
  go_wp2_with fail
  refine (ref2_MulAdd _ _ _ _ i0 i1 i2 j2 _).mono ?_
  rintro e w' ⟨rfl, rfl⟩
  go_wp2_with fail
  refine (word_Mul _ _ j0 j1 _).mono ?_
  rintro e w' ⟨rfl, rfl⟩
  go_wp2_with fail
  refine (ref2_MulAdd00 _ _ j0 j1 _).mono ?_
  rintro e w' ⟨rfl, rfl⟩
  go_wp2_with fail
  refine (alive2 _).mono ?_
  rintro e w' ⟨rfl, hal⟩
  go_wp2_with fail
  go_ret
  exact ⟨rfl, ((((Below.refl w.heap.size w).alloc (Nat.le_refl _) _).alloc (by simp) _).alloc (by simp; omega) _).trans (hal.mono (by simp; omega))⟩

set_option maxRecDepth 100000 in
theorem lifted (os : Os) (started : os.Started) (H : Type) (enc : TypeId × Value → H) :
    ReturnsInHanded {} Try.checked os 7 .any (Rows.wordMultipliesSpec.pre6 enc Try.prog Try.f7 Rows.wordMultipliesRow.domain false) (Rows.wordMultipliesSpec.post enc Try.prog Try.f7 false true false false) := by
  refine returnsInHanded_of_change (C := Try.checked) own started (by kernel_rfl) Try.func7
    (ChangeSpec.witness6 (enc := enc) (C := Try.checked) false ⟨#[], #[.agg #[.int .u64 0, .int .u64 0], .agg #[.int .u64 0, .int .u64 0], .agg #[.int .u64 0, .int .u64 0]], []⟩ 8 (by kernel_rfl) (by kernel_rfl) (by kernel_rfl) (by kernel_rfl)) ?_
  intro W base args ds gs before hval0 hW hcnd _
  have hval : ∀ (j : Nat) t v, Try.f7.params[j]? = some t → args[j]? = some v → Value.okWide Try.prog W .any base t v := hval0
  have hW' := hW
  obtain ⟨p, q, hA0, hV, rfl, hfz, hnd⟩ := hW
  have hA : DataW.TrodAll enc Try.prog W 0 (fun _ => true) true Try.f7.params.toList args.toList ds p := hA0
  rw [Try.params7] at hA hval
  obtain ⟨v0, vs0, d0, ds0, p0, q0, hargs, rfl, rfl, h0, r0⟩ := trodAll_cons hA
  obtain ⟨v1, vs1, d1, ds1, p1, q1, rfl, rfl, rfl, h1, r1⟩ := trodAll_cons r0
  obtain ⟨v2, vs2, d2, ds2, p2, q2, rfl, rfl, rfl, h2, r2⟩ := trodAll_cons r1
  obtain ⟨rfl, rfl, rfl⟩ := trodAll_nil r2
  obtain rfl : args = #[v0, v1, v2] := by cases args; simp_all
  obtain ⟨rfl, rfl⟩ := trodVars_none hV
  have k0 := h0
  have lt0 : ∀ x ∈ p0, x.block < W.heap.size := by obtain ⟨m, hm⟩ := k0; exact DataW.trod_lt m _ _ _ hm
  have k1 := h1
  have lt1 : ∀ x ∈ p1, x.block < W.heap.size := by obtain ⟨m, hm⟩ := k1; exact DataW.trod_lt m _ _ _ hm
  have k2 := h2
  have lt2 : ∀ x ∈ p2, x.block < W.heap.size := by obtain ⟨m, hm⟩ := k2; exact DataW.trod_lt m _ _ _ hm
  obtain ⟨a0, b0, rfl, w0, x0⟩ := Op.open_two Try.underlying32 Try.underlying22 (by kernel_rfl) (by kernel_rfl) h0
  obtain ⟨a1, b1, rfl, w1, x1⟩ := Op.open_two Try.underlying32 Try.underlying22 (by kernel_rfl) (by kernel_rfl) h1
  obtain ⟨a2, b2, rfl, w2, x2⟩ := Op.open_two Try.underlying32 Try.underlying22 (by kernel_rfl) (by kernel_rfl) h2
  clear hA0 hval0
  refine (walk a0 b0 w0 x0 a1 b1 w1 x1 a2 b2 w2 x2 W).mono fun e W' ⟨he, bel⟩ => ?_
  subst he
  exact ⟨_, rfl, _, _, _, [], _, [], hW', trodAll_mk1 (shut_bool Try.underlying4 _), (trodAll_cons_mk (Below.trod laidOut (by kernel_rfl) (of_decide_eq_true (by kernel_rfl)) k0 bel lt0) (trodAll_cons_mk (Below.trod laidOut (by kernel_rfl) (of_decide_eq_true (by kernel_rfl)) k1 bel lt1) (trodAll_cons_mk (Below.trod laidOut (by kernel_rfl) (of_decide_eq_true (by kernel_rfl)) k2 bel lt2) trodAll_mk0))), rfl, bel.frame _, fun h => by cases h⟩

theorem over : Rows.wordMultipliesRow.holds Try.pinned (OpenSpec.ofChange Rows.wordMultipliesSpec) :=
  OpenClaim.holds_of_wide 7 Try.f7 rfl rfl rfl rfl rfl rfl rfl ⟨rfl, rfl, rfl, rfl, rfl⟩ rfl rfl rfl rfl rfl (by kernel_rfl) Try.func7 (by kernel_rfl)
    (of_decide_eq_true (by kernel_rfl)) (by unfold Func.isWrapper; first | (rw [if_pos (by decide +kernel)]; kernel_rfl) | (rw [if_neg (by decide +kernel)]; exact ⟨rfl, rfl⟩))
    (fun os started H enc _ => lifted os started H enc)

/-- THE STATEMENT -/
theorem proved : Rows.WordMultipliesSaid := over
#print axioms proved
end Go.Proofs.Yteadkjbdbljbfaa.wordMultiplies
