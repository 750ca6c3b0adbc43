/- Contracts of package mask at words: zero, selection, the sign. The sign reads the package's table of two words. -/
import Derived.Test.YtfjanlfbnliokaaLimb0
import Derived.Deep.QuietTactic
import Derived.BigQuiet
namespace Go.Proofs.Ytfjanlfbnliokaa
set_option linter.unusedVariables false
set_option linter.unusedSimpArgs false
open Go.RowKit Wd

theorem ret1 {k : IntKind} {a b : Int} (h : a = b) : Ending.returned (.int k a) = Ending.returned (.int k b) := by rw [h]

theorem lt_of_cell {w : World} {b o : Nat} {v : Value} (h : w.cell? ⟨b, o, none⟩ = some v) : b < w.heap.size := by
  rcases Nat.lt_or_ge b w.heap.size with h1 | h1
  · exact h1
  · simp [World.cell?, Array.getElem?_eq_none h1] at h
theorem calls_flip {P : Program} {f : FuncId} {args : Array Value} {w : World} {v : Value} (h : Calls P f args w fun e w' => e = .returned v ∧ w = w') : Calls P f args w fun e w' => e = .returned v ∧ w' = w :=
  h.mono fun _ _ ⟨he, hw⟩ => ⟨he, hw.symm⟩
theorem mask_OfM (b : Bool) (w : World) : Calls Try.prog 59 #[.int .u64 (msk b)] w fun e w' => e = .returned (.int .u64 (msk b)) ∧ w' = w := by
  have h := mask_Of (msk b) (isW_msk b) w
  rw [show decide (msk b % 2 = 1) = b from by cases b <;> rfl] at h
  exact calls_flip h
/-- -1, 0 or 1 -/
def sgnM (neg zero : Bool) : Int := if neg then -1 else if zero then 0 else 1
end Go.Proofs.Ytfjanlfbnliokaa
