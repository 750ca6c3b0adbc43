/- Contracts of the reference of layer 8: Within, Contains. -/
import Derived.Test.YtoikcgmdlccdbaaDoorSeg2
import Derived.Test.YtoikcgmdlccdbaaDoorRef6
namespace Go.Proofs.YtoikcgmdlccdbaaDoor
set_option linter.unusedVariables false
set_option linter.unusedSimpArgs false
open Go.RowKit Wd

theorem with_bool (a b x : Int) : withB a b x = ((decide (a ≤ x) && decide (x ≤ b)) || (decide (b ≤ x) && decide (x ≤ a))) := by
  unfold withB; rw [Bool.decide_or, Bool.decide_and, Bool.decide_and]
theorem ref8_Within (a b x : Int) (w : World) :
    Calls Tryd.prog 24 #[.int .i64 a, .int .i64 b, .int .i64 x] w fun e w' => e = .returned (.bool (withB a b x)) ∧ w = w' := by
  rw [with_bool]
  cases e1 : decide (a ≤ x) <;> cases e2 : decide (x ≤ b) <;> cases e3 : decide (b ≤ x) <;> cases e4 : decide (x ≤ a)
  all_goals
    go_enter Tryd.func24, Tryd.ntmps24
    go_wp2_with fail
    go_ret
    exact ⟨rfl, rfl⟩
end Go.Proofs.YtoikcgmdlccdbaaDoor
