/- Contracts of package mask at words: zero, selection, the sign. The sign reads the package's table of two words. -/
import Derived.Test.YtoikcgmdlccdbaaDoorLimb0
import Derived.Deep.QuietTactic
import Derived.BigQuiet
namespace Go.Proofs.YtoikcgmdlccdbaaDoor
set_option linter.unusedVariables false
set_option linter.unusedSimpArgs false
open Go.RowKit Wd

theorem ret1 {k : IntKind} {a b : Int} (h : a = b) : Ending.returned (.int k a) = Ending.returned (.int k b) := by rw [h]

theorem mask_Zero (a : Int) (ha : IsW a) (w : World) :
    Calls Tryd.prog 63 #[.int .u64 a] w fun e w' => e = .returned (.int .u64 (msk (decide (a = 0)))) ∧ w = w' := by
  have h1 := zero_w ha
  have hor := or_w ha (isW_lo (-a))
  rw [Int.zero_sub] at h1
  have hn : IsW ((18446744073709551615 - bits .or .u64 a (lo (-a))) / 9223372036854775808) := by unfold IsW at *; omega
  have e : msk (decide (a = 0)) = msk (decide ((18446744073709551615 - bits .or .u64 a (lo (-a))) / 9223372036854775808 % 2 = 1)) := by
    rw [h1]; by_cases h : a = 0 <;> simp [h]
  rw [e]
  have HN := Lib.hid hn; have HO := Lib.hid hor
  clear h1 hor hn e
  have hsg : IntKind.u64.signed = false := rfl
  go_enter Tryd.func63, Tryd.ntmps63
  go_wp2_with fail
  simp only [wrapU]
  rw [not_w HO.out]
  refine (mask_Of _ HN.out _).mono ?_
  rintro e w' ⟨rfl, rfl⟩
  go_wp2_with fail
  go_ret
  exact ⟨rfl, rfl⟩

theorem mask_Select (m : Bool) (a b : Int) (ha : IsW a) (hb : IsW b) (w : World) :
    Calls Tryd.prog 86 #[.int .u64 (msk m), .int .u64 a, .int .u64 b] w fun e w' => e = .returned (.int .u64 (selI m a b)) ∧ w = w' := by
  rw [← select_wI m ha hb]
  go_enter Tryd.func86, Tryd.ntmps86
  go_wp2
  go_ret
  exact ⟨rfl, rfl⟩

/-- the table of package mask -/
def TabM (w : World) : Prop := w.cell? ⟨0, 0, none⟩ = some (.int .u64 9223372036854775808) ∧ w.cell? ⟨0, 1, none⟩ = some (.int .u64 18446744073709551615)
theorem lt_of_cell {w : World} {b o : Nat} {v : Value} (h : w.cell? ⟨b, o, none⟩ = some v) : b < w.heap.size := by
  rcases Nat.lt_or_ge b w.heap.size with h1 | h1
  · exact h1
  · simp [World.cell?, Array.getElem?_eq_none h1] at h
theorem TabM.below {w w' : World} {B : Nat} (h : TabM w) (hb : Below B w w') (hB : w.heap.size ≤ B) : TabM w' := by
  have hlt := lt_of_cell h.1
  have hB' : 0 < B := by omega
  exact ⟨(hb.cell (p := ⟨0, 0, none⟩) hB').trans h.1, (hb.cell (p := ⟨0, 1, none⟩) hB').trans h.2⟩

theorem calls_flip {P : Program} {f : FuncId} {args : Array Value} {w : World} {v : Value} (h : Calls P f args w fun e w' => e = .returned v ∧ w = w') : Calls P f args w fun e w' => e = .returned v ∧ w' = w :=
  h.mono fun _ _ ⟨he, hw⟩ => ⟨he, hw.symm⟩
theorem mask_OfM (b : Bool) (w : World) : Calls Tryd.prog 73 #[.int .u64 (msk b)] w fun e w' => e = .returned (.int .u64 (msk b)) ∧ w' = w := by
  have h := mask_Of (msk b) (isW_msk b) w
  rw [show decide (msk b % 2 = 1) = b from by cases b <;> rfl] at h
  exact calls_flip h
/-- -1, 0 or 1 -/
def sgnM (neg zero : Bool) : Int := if neg then -1 else if zero then 0 else 1
theorem mask_Sign (neg zero : Bool) (w : World) (hT : TabM w) :
    Calls Tryd.prog 75 #[.int .u64 (msk neg), .int .u64 (msk zero)] w fun e w' => e = .returned (.int .i64 (sgnM neg zero)) ∧ ∃ n, w' = w.drewN n := by
  have c1 := hT.2
  have e1 : bits .and .u64 (bits .xor .u64 IntKind.u64.max (msk zero)) 1 = if zero then 0 else 1 := by cases zero <;> rfl
  have e2 : wrap64 (selI neg 18446744073709551615 (if zero then 0 else 1)) = sgnM neg zero := by rw [← IntWalk.i64_left]; cases neg <;> cases zero <;> rfl
  have e3 : IsW (if zero then 0 else 1) := by cases zero <;> (unfold IsW; decide)
  rw [← e2]
  rw [← e1] at e3 ⊢
  have hlt : 0 < w.heap.size := lt_of_cell hT.1
  have hsg : IntKind.u64.signed = false := rfl
  have E3 := Lib.hid e3
  clear e1 e2 e3 hT
  go_enter Tryd.func75, Tryd.ntmps75
  go_wp2_with fail
  go_quiet ((first | (go_at_call 73; exact Calls.quiet_of_same (mask_OfM _ _)) | (go_at_call 86; exact Calls.quiet_of_same (calls_flip (mask_Select neg _ _ (by unfold IsW; decide) E3.out _)))))
  go_wp2_with fail
  go_ret
  exact ⟨rfl, nq, rfl⟩
end Go.Proofs.YtoikcgmdlccdbaaDoor
