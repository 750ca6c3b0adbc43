/- Contract of the reference's Mask (geofenceref01.Mask). -/
import Derived.Test.YtoikcgmdlccdbaaDoorWords
namespace Go.Proofs.YtoikcgmdlccdbaaDoor
set_option linter.unusedVariables false
open Go.RowKit Wd
theorem ref1_Mask (b : Bool) (w : World) :
    Calls Tryd.prog 23 #[.bool b] w fun e w' => e = .returned (.int .u64 (msk b)) ∧ w = w' := by
  cases b
  · go_enter Tryd.func23, Tryd.ntmps23
    go_wp2_with fail
    go_ret
    exact ⟨rfl, rfl⟩
  · go_enter Tryd.func23, Tryd.ntmps23
    go_wp2_with fail
    go_ret
    exact ⟨rfl, rfl⟩
end Go.Proofs.YtoikcgmdlccdbaaDoor
