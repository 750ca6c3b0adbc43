/- The words at the head of the program, as lists of signs: what the rows ask of them. -/
import Derived.Test.YtoikcgmdlccdbaaDoorCards
import Derived.Test.YtoikcgmdlccdbaaDoorTie
import Derived.WalkKit
import Derived.ProofKit
import Derived.OpenShut
namespace Go.Proofs.YtoikcgmdlccdbaaDoor
def sg0 : List Char := List.map Char.ofNat [104, 97, 114, 110, 101, 115, 115]
def sg1 : List Char := List.map Char.ofNat [54, 97, 97, 49, 56, 54, 50, 54, 57, 56, 102, 50, 48, 97, 53, 53, 55, 56, 52, 49, 53, 54, 97, 53, 57, 97, 56, 57, 49, 48, 52, 57, 53, 56, 48, 101, 51, 99, 56, 52, 55, 98, 56, 52, 100, 55, 54, 54, 55, 49, 102, 98, 56, 100, 53, 102, 100, 101, 49, 48, 102, 102, 49, 97]
def sg2 : List Char := List.map Char.ofNat [99, 117, 116]
def sgr : List Char := List.map Char.ofNat [97, 116, 32, 103, 101, 111, 102, 101, 110, 99, 101, 47, 103, 101, 111, 102, 101, 110, 99, 101, 108, 97, 119, 48, 56, 46, 83, 101, 103, 109, 101, 110, 116, 87, 105, 116, 104, 105, 110, 32, 103, 101, 111, 102, 101, 110, 99, 101, 47, 103, 101, 111, 102, 101, 110, 99, 101, 108, 97, 119, 48, 56, 46, 83, 101, 103, 109, 101, 110, 116, 67, 111, 110, 116, 97, 105, 110, 115, 32, 103, 101, 111, 102, 101, 110, 99, 101, 47, 103, 101, 111, 102, 101, 110, 99, 101, 108, 97, 119, 48, 56, 46, 83, 101, 103, 109, 101, 110, 116, 77, 101, 101, 116, 115, 32, 103, 101, 111, 102, 101, 110, 99, 101, 47, 103, 101, 111, 102, 101, 110, 99, 101, 108, 97, 119, 48, 56, 46, 83, 101, 103, 109, 101, 110, 116, 83, 121, 109, 109, 101, 116, 114, 105, 101, 115, 32, 103, 101, 111, 102, 101, 110, 99, 101, 47, 103, 101, 111, 102, 101, 110, 99, 101, 108, 97, 119, 48, 56, 46, 83, 101, 103, 109, 101, 110, 116, 73, 116, 115, 101, 108, 102, 32, 103, 101, 111, 102, 101, 110, 99, 101, 47, 103, 101, 111, 102, 101, 110, 99, 101, 108, 97, 119, 48, 56, 46, 83, 101, 103, 109, 101, 110, 116, 73, 109, 112, 108, 105, 99, 97, 116, 105, 111, 110, 115, 32, 103, 101, 111, 102, 101, 110, 99, 101, 47, 103, 101, 111, 102, 101, 110, 99, 101, 108, 97, 119, 49, 53, 46, 68, 105, 115, 99, 77, 97, 116, 99, 104, 101, 115, 82, 101, 102, 101, 114, 101, 110, 99, 101, 32, 103, 101, 111, 102, 101, 110, 99, 101, 47, 103, 101, 111, 102, 101, 110, 99, 101, 108, 97, 119, 49, 53, 46, 68, 105, 115, 99, 79, 114, 100, 101, 114, 32, 103, 101, 111, 102, 101, 110, 99, 101, 47, 103, 101, 111, 102, 101, 110, 99, 101, 108, 97, 119, 49, 53, 46, 68, 105, 115, 99, 66, 111, 117, 110, 100, 97, 114, 121, 32, 103, 101, 111, 102, 101, 110, 99, 101, 47, 103, 101, 111, 102, 101, 110, 99, 101, 108, 97, 119, 49, 53, 46, 68, 105, 115, 99, 77, 105, 100, 100, 108, 101, 115, 32, 103, 101, 111, 102, 101, 110, 99, 101, 47, 103, 101, 111, 102, 101, 110, 99, 101, 108, 97, 119, 49, 53, 46, 68, 105, 115, 99, 82, 97, 100, 105, 117, 115, 32, 103, 101, 111, 102, 101, 110, 99, 101, 47, 103, 101, 111, 102, 101, 110, 99, 101, 108, 97, 119, 49, 53, 46, 68, 105, 115, 99, 69, 118, 101, 110, 116, 115, 32, 103, 101, 111, 102, 101, 110, 99, 101, 47, 103, 101, 111, 102, 101, 110, 99, 101, 108, 97, 119, 49, 52, 46, 80, 111, 108, 121, 103, 111, 110, 86, 97, 108, 105, 100, 32, 103, 101, 111, 102, 101, 110, 99, 101, 47, 103, 101, 111, 102, 101, 110, 99, 101, 108, 97, 119, 49, 52, 46, 80, 111, 108, 121, 103, 111, 110, 76, 111, 99, 97, 116, 101, 115, 32, 103, 101, 111, 102, 101, 110, 99, 101, 47, 103, 101, 111, 102, 101, 110, 99, 101, 108, 97, 119, 49, 52, 46, 80, 111, 108, 121, 103, 111, 110, 86, 101, 114, 116, 105, 99, 101, 115, 32, 103, 101, 111, 102, 101, 110, 99, 101, 47, 103, 101, 111, 102, 101, 110, 99, 101, 108, 97, 119, 49, 52, 46, 80, 111, 108, 121, 103, 111, 110, 77, 105, 100, 100, 108, 101, 115, 32, 103, 101, 111, 102, 101, 110, 99, 101, 47, 103, 101, 111, 102, 101, 110, 99, 101, 108, 97, 119, 49, 52, 46, 80, 111, 108, 121, 103, 111, 110, 69, 118, 101, 110, 116, 115, 32, 103, 101, 111, 102, 101, 110, 99, 101, 47, 103, 101, 111, 102, 101, 110, 99, 101, 108, 97, 119, 49, 52, 46, 80, 111, 108, 121, 103, 111, 110, 82, 111, 116, 97, 116, 101, 115]
theorem ws_word (r : List Char) : ∀ l : List Char, (l.all fun c => c != Char.ofNat 32) = true → wordsSigns (l ++ Char.ofNat 32 :: r) = l :: wordsSigns r
  | [], _ => rfl
  | c :: l, h => by
    rw [List.all_cons, Bool.and_eq_true] at h
    have ih := ws_word r l h.2
    have hc : c ≠ Char.ofNat 32 := by simpa using h.1
    show wordsSigns (c :: (l ++ Char.ofNat 32 :: r)) = _
    rw [wordsSigns, ih]
    exact hc
theorem io1 : Tryd.prog.initOrder = "harness 6aa1862698f20a55784156a59a891049580e3c847b84d76671fb8d5fde10ff1a cut at geofence/geofencelaw08.SegmentWithin geofence/geofencelaw08.SegmentContains geofence/geofencelaw08.SegmentMeets geofence/geofencelaw08.SegmentSymmetries geofence/geofencelaw08.SegmentItself geofence/geofencelaw08.SegmentImplications geofence/geofencelaw15.DiscMatchesReference geofence/geofencelaw15.DiscOrder geofence/geofencelaw15.DiscBoundary geofence/geofencelaw15.DiscMiddles geofence/geofencelaw15.DiscRadius geofence/geofencelaw15.DiscEvents geofence/geofencelaw14.PolygonValid geofence/geofencelaw14.PolygonLocates geofence/geofencelaw14.PolygonVertices geofence/geofencelaw14.PolygonMiddles geofence/geofencelaw14.PolygonEvents geofence/geofencelaw14.PolygonRotates" := by kernel_rfl
theorem io2 : "harness 6aa1862698f20a55784156a59a891049580e3c847b84d76671fb8d5fde10ff1a cut at geofence/geofencelaw08.SegmentWithin geofence/geofencelaw08.SegmentContains geofence/geofencelaw08.SegmentMeets geofence/geofencelaw08.SegmentSymmetries geofence/geofencelaw08.SegmentItself geofence/geofencelaw08.SegmentImplications geofence/geofencelaw15.DiscMatchesReference geofence/geofencelaw15.DiscOrder geofence/geofencelaw15.DiscBoundary geofence/geofencelaw15.DiscMiddles geofence/geofencelaw15.DiscRadius geofence/geofencelaw15.DiscEvents geofence/geofencelaw14.PolygonValid geofence/geofencelaw14.PolygonLocates geofence/geofencelaw14.PolygonVertices geofence/geofencelaw14.PolygonMiddles geofence/geofencelaw14.PolygonEvents geofence/geofencelaw14.PolygonRotates" = String.ofList (sg0 ++ Char.ofNat 32 :: (sg1 ++ Char.ofNat 32 :: (sg2 ++ Char.ofNat 32 :: sgr))) := by kernel_rfl
theorem io : wordsSigns Tryd.prog.initOrder.toList = sg0 :: sg1 :: sg2 :: wordsSigns sgr := by
  rw [io1, io2, String.toList_ofList, ws_word _ sg0 (by kernel_rfl), ws_word _ sg1 (by kernel_rfl), ws_word _ sg2 (by kernel_rfl)]
theorem sg0Is : sg0 = "harness".toList := by kernel_rfl
theorem sg2Is : sg2 = "cut".toList := by kernel_rfl
theorem sumIs : isSumSigns sg1 = true := by kernel_rfl
theorem strip_cut (R : List (List Char)) : stripLifts liftWords ("cut".toList :: R) = ([], "cut".toList :: R) := by kernel_rfl
section
variable {P : Program} {R : List (List Char)} (hw : wordsSigns P.initOrder.toList = "harness".toList :: sg1 :: "cut".toList :: R)
include hw
theorem behind_of : behindMainWord (wordsSigns P.initOrder.toList) = "cut".toList :: R := by
  rw [hw, behindMainWord, sumIs]; simp
theorem make_of : P.make = some .cut := by unfold Program.make; rw [behind_of hw]; simp
theorem head_of : P.headLifts = [] := by unfold Program.headLifts; rw [behind_of hw, strip_cut]; simp
theorem lifts_of : P.liftsFinal = false := by unfold Program.liftsFinal; rw [behind_of hw, head_of hw]; simp
theorem enter_of (h1 : P.laysLater = false) (h2 : P.bearsReflect = false) (h3 : P.doorFits [] = true) : P.mayEnter = true := by
  unfold Program.mayEnter; rw [behind_of hw]; simp only [strip_cut, h1, h2, h3]; simp
theorem main_of : P.mainIs = some (true, sg1) := by unfold Program.mainIs; rw [hw]; simp [sumIs]
end
theorem ioh : wordsSigns Tryd.prog.initOrder.toList = "harness".toList :: sg1 :: "cut".toList :: wordsSigns sgr := by rw [io, sg0Is, sg2Is]
theorem makeIs : Tryd.prog.make = some .cut := make_of ioh
theorem liftsIs : Tryd.prog.liftsFinal = false := lifts_of ioh
theorem laysIs : Tryd.prog.laysLater = false := by kernel_rfl
theorem bearsIs : Tryd.prog.bearsReflect = false := by kernel_rfl
theorem doorIs : Tryd.prog.doorFits [] = true := by kernel_rfl
theorem enterIs : Tryd.prog.mayEnter = true := enter_of ioh laysIs bearsIs doorIs
theorem mainIs : Tryd.prog.mainIs = some (true, sg1) := main_of ioh
theorem sumText : sg1 = String.toList "6aa1862698f20a55784156a59a891049580e3c847b84d76671fb8d5fde10ff1a" := by rw [show "6aa1862698f20a55784156a59a891049580e3c847b84d76671fb8d5fde10ff1a" = String.ofList sg1 from by kernel_rfl, String.toList_ofList]
theorem mainText : Tryd.pinned.checked.prog.mainIs = some (true, String.toList "6aa1862698f20a55784156a59a891049580e3c847b84d76671fb8d5fde10ff1a") := mainIs.trans (by rw [sumText])
end Go.Proofs.YtoikcgmdlccdbaaDoor
