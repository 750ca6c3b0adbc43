/- The contract of MulSigned: the product of two signed words, whose high word a deferred closure corrects twice. -/
import Derived.Test.YteadkjbdbljbfaaRef2
import Derived.StillTailTactics
import Derived.Defers
namespace Go.Proofs.Yteadkjbdbljbfaa
set_option linter.unusedVariables false
set_option linter.unusedSimpArgs false
open Go.RowKit Wd

theorem calls_flip {P : Program} {f : FuncId} {args : Array Value} {w : World} {v : Value} (h : Calls P f args w fun e w' => e = .returned v ∧ w = w') : Calls P f args w fun e w' => e = .returned v ∧ w' = w :=
  h.mono fun _ _ ⟨he, hw⟩ => ⟨he, hw.symm⟩

theorem closure_signed (bh ba bb : Nat) (h a b : Int) (hA : IsI a) (hB : IsI b) (na : bh ≠ ba) (nb : bh ≠ bb) (u : FrameMode) (w : World)
    (ch : w.cell? ⟨bh, 0, none⟩ = some (.int .u64 h)) (fh : w.frozen? ⟨bh, 0, none⟩ = false) (ca : w.cell? ⟨ba, 0, none⟩ = some (.int .i64 a)) (cb : w.cell? ⟨bb, 0, none⟩ = some (.int .i64 b)) :
    CallsD Try.prog 21 #[.pointer (some ⟨bh, 0, none⟩), .pointer (some ⟨ba, 0, none⟩), .pointer (some ⟨bb, 0, none⟩)] u w fun e u' w' => u' = u ∧ (e = .returned (.tuple #[]) ∧
      w'.cell? ⟨bh, 0, none⟩ = some (.int .u64 (lo (lo (h - gate (decide (a < 0)) (lo b)) - gate (decide (b < 0)) (lo a)))) ∧ Below bh w w') := by
  go_enter_d Try.func21, Try.ntmps21
  go_wp2_with fail
  go_still_tail 7, (by kernel_rfl)
  still_call (calls_flip (mask_Negative a hA _))
  repeat still_step
  refine wpStill_nil ?_
  change wpList _ _ _ _ _ w.drew
  go_wp2_with fail
  obtain ⟨w2, hw2⟩ : ∃ w2, w2 = (w.setCell ⟨bh, 0, none⟩ (.int .u64 (IntKind.u64.wrap (h - bits BinOp.and IntKind.u64 (msk (decide (a < 0))) (IntKind.u64.wrap b))))).drew := ⟨_, rfl⟩
  rw [← hw2]
  have f2 : w2.cell? ⟨bh, 0, none⟩ = some (.int .u64 (lo (h - gate (decide (a < 0)) (lo b)))) := by
    rw [hw2, World.cell?_drew, World.cell?_setCell_same _ _ _ ch, wrapU, wrapU, and_gate _ (isW_lo b)]
  have f3 : w2.frozen? ⟨bh, 0, none⟩ = false := by rw [hw2]; simpa [go_sem] using fh
  have f4 : w2.cell? ⟨ba, 0, none⟩ = some (.int .i64 a) := by
    rw [hw2, World.cell?_drew, World.cell?_setCell_other _ _ _ _ (by simp [na])]; exact ca
  have f5 : w2.cell? ⟨bb, 0, none⟩ = some (.int .i64 b) := by
    rw [hw2, World.cell?_drew, World.cell?_setCell_other _ _ _ _ (by simp [nb])]; exact cb
  have f6 : Below bh w w2 := by rw [hw2]; exact ((Below.refl bh w).setCell (p := ⟨bh, 0, none⟩) (Nat.le_refl _) _).drew
  clear hw2 ch fh ca cb
  have F6 := Lib.hid f6; clear f6
  go_still_tail 7, (by kernel_rfl)
  still_call (calls_flip (mask_Negative b hB _))
  repeat still_step
  refine wpStill_nil ?_
  change wpList _ _ _ _ _ (World.drew _)
  go_wp2_with fail
  go_end0
  refine ⟨rfl, ?_, ?_⟩
  · rw [World.cell?_drew, World.cell?_setCell_same _ _ _ f2, wrapU, wrapU, and_gate _ (isW_lo a)]
  · exact (F6.out.setCell (p := ⟨bh, 0, none⟩) (Nat.le_refl _) _).drew

theorem word_MulSigned (a b : Int) (hA : IsI a) (hB : IsI b) (w : World) :
    Calls Try.prog 9 #[.int .i64 a, .int .i64 b] w fun e w' => e = .returned (.tuple #[.int .u64 (hi (a * b)), .int .u64 (lo (a * b))]) ∧ Below w.heap.size w w' := by
  have hmf : ∀ (fn : Fn) (first cap : Array Value) (w : World), (Instr.makeFunc fn first cap).run Try.prog w = .ok (.func fn first cap) w := fun _ _ _ _ => rfl
  rw [← signed_hi hA hB, ← signed_lo]
  go_enter_defers Try.func9, Try.ntmps9
  go_wp2_with (go_at_call 23; rw [wrapU, wrapU]; refine (bits_Mul64 _ _ (isW_lo a) (isW_lo b) _).mono ?_; rintro e w' ⟨rfl, rfl⟩)
  refine leaves_cons (f := 21) (args := #[.pointer (some ⟨w.heap.size + 1 + 1, 0, none⟩), .pointer (some ⟨w.heap.size, 0, none⟩), .pointer (some ⟨w.heap.size + 1, 0, none⟩)]) (by simp) (by simp [go_sem]) ?_
  refine (closure_signed (w.heap.size + 1 + 1) w.heap.size (w.heap.size + 1) (hi (lo a * lo b)) a b hA hB (by omega) (by omega) _ _ (by simp [go_sem]) (by simp [go_sem]) (by simp [go_sem]) (by simp [go_sem])).mono ?_
  rintro e u' w'' ⟨rfl, rfl, hc, hb⟩
  have hbb : Below w.heap.size w w'' := ((((Below.refl w.heap.size w).alloc (Nat.le_refl _) _).alloc (by simp) _).alloc (by simp; omega) _).trans (hb.mono (by omega))
  simp [Leaves, settle, results, Try.results9, go_sem, hc, hbb]
end Go.Proofs.Yteadkjbdbljbfaa
