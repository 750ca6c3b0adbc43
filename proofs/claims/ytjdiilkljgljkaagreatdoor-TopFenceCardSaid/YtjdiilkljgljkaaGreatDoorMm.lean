/- The words at the head of the program, as lists of signs: what the rows ask of them. Of a list of laid variables the rest is laid, too. -/
import Derived.Test.YtjdiilkljgljkaaGreatDoorCards
import Derived.Test.YtjdiilkljgljkaaGreatDoorTie
import Derived.WalkKit
import Derived.ProofKit
import Derived.OpenShut
import Derived.Lib.LaidTab
namespace Go.Proofs.YtjdiilkljgljkaaGreatDoor
def sg0 : List Char := List.map Char.ofNat [104, 97, 114, 110, 101, 115, 115]
def sg1 : List Char := List.map Char.ofNat [49, 50, 51, 50, 57, 97, 55, 99, 54, 55, 55, 48, 57, 97, 57, 51, 57, 48, 51, 98, 49, 54, 101, 53, 50, 52, 100, 56, 57, 50, 55, 57, 97, 54, 99, 97, 50, 102, 98, 50, 97, 49, 56, 48, 99, 53, 55, 48, 54, 98, 98, 98, 52, 55, 52, 101, 48, 100, 50, 49, 101, 97, 101, 101]
def sg2 : List Char := List.map Char.ofNat [99, 117, 116]
def sgr : List Char := List.map Char.ofNat [97, 116, 32, 103, 101, 111, 102, 101, 110, 99, 101, 47, 103, 101, 111, 102, 101, 110, 99, 101, 116, 111, 112, 46, 84, 111, 112, 79, 114, 105, 101, 110, 116, 32, 103, 101, 111, 102, 101, 110, 99, 101, 47, 103, 101, 111, 102, 101, 110, 99, 101, 116, 111, 112, 46, 84, 111, 112, 67, 105, 114, 99, 108, 101, 32, 103, 101, 111, 102, 101, 110, 99, 101, 47, 103, 101, 111, 102, 101, 110, 99, 101, 116, 111, 112, 46, 84, 111, 112, 70, 101, 110, 99, 101, 32, 103, 101, 111, 102, 101, 110, 99, 101, 47, 103, 101, 111, 102, 101, 110, 99, 101, 116, 111, 112, 46, 84, 111, 112, 66, 97, 116, 99, 104, 32, 103, 101, 111, 102, 101, 110, 99, 101, 47, 103, 101, 111, 102, 101, 110, 99, 101, 116, 111, 112, 46, 84, 111, 112, 83, 109, 97, 108, 108]
theorem ws_word (r : List Char) : ∀ l : List Char, (l.all fun c => c != Char.ofNat 32) = true → wordsSigns (l ++ Char.ofNat 32 :: r) = l :: wordsSigns r
  | [], _ => rfl
  | c :: l, h => by
    rw [List.all_cons, Bool.and_eq_true] at h
    have ih := ws_word r l h.2
    have hc : c ≠ Char.ofNat 32 := by simpa using h.1
    show wordsSigns (c :: (l ++ Char.ofNat 32 :: r)) = _
    rw [wordsSigns, ih]
    exact hc
theorem io1 : Tryz.prog.initOrder = "harness 12329a7c67709a93903b16e524d89279a6ca2fb2a180c5706bbb474e0d21eaee cut at geofence/geofencetop.TopOrient geofence/geofencetop.TopCircle geofence/geofencetop.TopFence geofence/geofencetop.TopBatch geofence/geofencetop.TopSmall" := by kernel_rfl
theorem io2 : "harness 12329a7c67709a93903b16e524d89279a6ca2fb2a180c5706bbb474e0d21eaee cut at geofence/geofencetop.TopOrient geofence/geofencetop.TopCircle geofence/geofencetop.TopFence geofence/geofencetop.TopBatch geofence/geofencetop.TopSmall" = String.ofList (sg0 ++ Char.ofNat 32 :: (sg1 ++ Char.ofNat 32 :: (sg2 ++ Char.ofNat 32 :: sgr))) := by kernel_rfl
theorem io : wordsSigns Tryz.prog.initOrder.toList = sg0 :: sg1 :: sg2 :: wordsSigns sgr := by
  rw [io1, io2, String.toList_ofList, ws_word _ sg0 (by kernel_rfl), ws_word _ sg1 (by kernel_rfl), ws_word _ sg2 (by kernel_rfl)]
theorem sg0Is : sg0 = "harness".toList := by kernel_rfl
theorem sg2Is : sg2 = "cut".toList := by kernel_rfl
theorem sumIs : isSumSigns sg1 = true := by kernel_rfl
theorem strip_cut (R : List (List Char)) : stripLifts liftWords ("cut".toList :: R) = ([], "cut".toList :: R) := by kernel_rfl
section
variable {P : Program} {R : List (List Char)} (hw : wordsSigns P.initOrder.toList = "harness".toList :: sg1 :: "cut".toList :: R)
include hw
theorem behind_of : behindMainWord (wordsSigns P.initOrder.toList) = "cut".toList :: R := by
  rw [hw, behindMainWord, sumIs]; simp
theorem make_of : P.make = some .cut := by unfold Program.make; rw [behind_of hw]; simp
theorem head_of : P.headLifts = [] := by unfold Program.headLifts; rw [behind_of hw, strip_cut]; simp
theorem lifts_of : P.liftsFinal = false := by unfold Program.liftsFinal; rw [behind_of hw, head_of hw]; simp
theorem enter_of (h1 : P.laysLater = false) (h2 : P.bearsReflect = false) (h3 : P.doorFits [] = true) : P.mayEnter = true := by
  unfold Program.mayEnter; rw [behind_of hw]; simp only [strip_cut, h1, h2, h3]; simp
theorem main_of : P.mainIs = some (true, sg1) := by unfold Program.mainIs; rw [hw]; simp [sumIs]
end
theorem ioh : wordsSigns Tryz.prog.initOrder.toList = "harness".toList :: sg1 :: "cut".toList :: wordsSigns sgr := by rw [io, sg0Is, sg2Is]
theorem makeIs : Tryz.prog.make = some .cut := make_of ioh
theorem liftsIs : Tryz.prog.liftsFinal = false := lifts_of ioh
theorem laysIs : Tryz.prog.laysLater = false := by kernel_rfl
theorem bearsIs : Tryz.prog.bearsReflect = false := by kernel_rfl
theorem doorIs : Tryz.prog.doorFits [] = true := by kernel_rfl
theorem enterIs : Tryz.prog.mayEnter = true := enter_of ioh laysIs bearsIs doorIs
theorem mainIs : Tryz.prog.mainIs = some (true, sg1) := main_of ioh
theorem sumText : sg1 = String.toList "12329a7c67709a93903b16e524d89279a6ca2fb2a180c5706bbb474e0d21eaee" := by rw [show "12329a7c67709a93903b16e524d89279a6ca2fb2a180c5706bbb474e0d21eaee" = String.ofList sg1 from by kernel_rfl, String.toList_ofList]
theorem mainText : Tryz.pinned.checked.prog.mainIs = some (true, String.toList "12329a7c67709a93903b16e524d89279a6ca2fb2a180c5706bbb474e0d21eaee") := mainIs.trans (by rw [sumText])
end Go.Proofs.YtjdiilkljgljkaaGreatDoor
namespace Go.Proofs.YtjdiilkljgljkaaGreatDoor
theorem laid_tail {P : Program} {W : World} {x : String × DataW Unit} {rest : List (String × DataW Unit)} (h : laidMet P (x :: rest) W) : laidMet P rest W := by
  obtain ⟨ps, ⟨g', t', cs, fuel, p, q, hg', ht', hvar, hd, hr, hps⟩, hn, hc⟩ := h
  subst hps
  exact ⟨q, hr, (List.nodup_append.1 hn).2.1, fun b off hm => hc b off (List.mem_append.2 (.inr hm))⟩
end Go.Proofs.YtjdiilkljgljkaaGreatDoor
