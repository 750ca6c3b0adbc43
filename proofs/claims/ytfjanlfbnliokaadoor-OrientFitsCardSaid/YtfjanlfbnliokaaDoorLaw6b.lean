/- The contract of shift; the cut behind three points that are read out of an array. -/
import Derived.Test.YtfjanlfbnliokaaDoorLaw6
import Derived.Deep.DeepCutAuto
namespace Go.Proofs.YtfjanlfbnliokaaDoor
set_option linter.unusedVariables false
set_option linter.unusedSimpArgs false
open Go.RowKit Wd

theorem and_true2 {a b : Bool} (h : (a && b) = true) : a = true ∧ b = true := by simpa using h
theorem det_sum (ax ay bx b_ cx cy dx dy : Int) : det ax ay bx b_ dx dy + det bx b_ cx cy dx dy + det cx cy ax ay dx dy = det ax ay bx b_ cx cy := by unfold det; grind
theorem det_shift (ax ay bx b_ cx cy x y : Int) : det (ax + x) (ay + y) (bx + x) (b_ + y) (cx + x) (cy + y) = det ax ay bx b_ cx cy := by unfold det; grind
def okI (p x : Int) : Bool := decide (-9223372036854775808 ≤ p + x ∧ p + x ≤ 9223372036854775807)
theorem okI_true {p x : Int} (h : okI p x = true) : IsI (p + x) ∧ IntKind.i64.wrap (p + x) = p + x := by
  simp [okI] at h; refine ⟨by unfold IsI; omega, by rw [IntKind.wrap_i64]; omega⟩
theorem okI_test {p x : Int} (hp : IsI p) (hx : IsI x) : (decide (IntKind.i64.wrap (p + x) < p) != decide (x < 0)) = !okI p x := by
  unfold IsI at *
  rw [IntKind.wrap_i64]
  by_cases h : -9223372036854775808 ≤ p + x ∧ p + x ≤ 9223372036854775807
  · rw [show okI p x = true from by simp [okI, h]]
    by_cases h0 : x < 0
    · simp [h0]; omega
    · simp [h0]; omega
  · rw [show okI p x = false from by simp [okI]; omega]
    by_cases h0 : x < 0
    · simp [h0]; omega
    · simp [h0]; omega
def flI (b : Bool) : Int := if b then 1 else 0
/-- three points lie in boxes of their own -/
def Cut3P (w : World) (ax ay bx b_ cx cy : Int) (s5 s6 s7 : Value) (wx : World) : Prop := ∃ b5 b6 b7 : Nat,
  s5 = .pointer (some ⟨b5, 0, none⟩) ∧ s6 = .pointer (some ⟨b6, 0, none⟩) ∧ s7 = .pointer (some ⟨b7, 0, none⟩) ∧ Bx wx b5 #[.int .i64 ax, .int .i64 ay] 23 ∧ Bx wx b6 #[.int .i64 bx, .int .i64 b_] 23 ∧ Bx wx b7 #[.int .i64 cx, .int .i64 cy] 23 ∧ Below w.heap.size w wx
set_option maxHeartbeats 1000000 in
theorem law6_shift_yy (px py x y : Int) (i1 : IsI px) (i2 : IsI py) (i3 : IsI x) (i4 : IsI y) (hx : okI px x = true) (hy : okI py y = true) (w : World) :
    Calls Tryd.prog 27 #[.agg #[.int .i64 px, .int .i64 py], .int .i64 x, .int .i64 y] w fun e w' => e = .returned (.tuple #[.agg #[.int .i64 (IntKind.i64.wrap (px + x)), .int .i64 (IntKind.i64.wrap (py + y))], .int .i64 (flI true)]) ∧ Below w.heap.size w w' := by
  have HB0 := Lib.hid (Below.refl w.heap.size w)
  have t1 := okI_test i1 i3; have t2 := okI_test i2 i4
  rw [hx] at t1
  rw [hy] at t2
  generalize hqx : IntKind.i64.wrap (px + x) = qx at *
  generalize hqy : IntKind.i64.wrap (py + y) = qy at *
  clear hx hy i1 i2 i3 i4
  rw [show flI true = 1 from rfl]
  cases e1 : decide (qx < px) <;> cases e2 : decide (x < 0) <;> rw [e1, e2] at t1 <;> simp at t1
  all_goals (cases e3 : decide (qy < py) <;> cases e4 : decide (y < 0) <;> rw [e3, e4] at t2 <;> simp at t2)
  all_goals
    go_enter Tryd.func27, Tryd.ntmps27
    go_wp2_with fail
    refine bodyPost_ret (v := .tuple #[.agg #[.int .i64 qx, .int .i64 qy], .int .i64 1]) (by simp [results, Tryd.results27, go_sem]) rfl ⟨rfl, ?_⟩
    repeat (first | exact below_rf | (refine below_st ?_ ?_; (focus (first | (simp; done) | omega | (simp <;> omega)))) | refine below_al ?_)

set_option maxHeartbeats 1000000 in
theorem law6_shift_yn (px py x y : Int) (i1 : IsI px) (i2 : IsI py) (i3 : IsI x) (i4 : IsI y) (hx : okI px x = true) (hy : okI py y = false) (w : World) :
    Calls Tryd.prog 27 #[.agg #[.int .i64 px, .int .i64 py], .int .i64 x, .int .i64 y] w fun e w' => e = .returned (.tuple #[.agg #[.int .i64 (IntKind.i64.wrap (px + x)), .int .i64 (IntKind.i64.wrap (py + y))], .int .i64 (flI false)]) ∧ Below w.heap.size w w' := by
  have HB0 := Lib.hid (Below.refl w.heap.size w)
  have t1 := okI_test i1 i3; have t2 := okI_test i2 i4
  rw [hx] at t1
  rw [hy] at t2
  generalize hqx : IntKind.i64.wrap (px + x) = qx at *
  generalize hqy : IntKind.i64.wrap (py + y) = qy at *
  clear hx hy i1 i2 i3 i4
  rw [show flI false = 0 from rfl]
  cases e1 : decide (qx < px) <;> cases e2 : decide (x < 0) <;> rw [e1, e2] at t1 <;> simp at t1
  all_goals (cases e3 : decide (qy < py) <;> cases e4 : decide (y < 0) <;> rw [e3, e4] at t2 <;> simp at t2)
  all_goals
    go_enter Tryd.func27, Tryd.ntmps27
    go_wp2_with fail
    refine bodyPost_ret (v := .tuple #[.agg #[.int .i64 qx, .int .i64 qy], .int .i64 0]) (by simp [results, Tryd.results27, go_sem]) rfl ⟨rfl, ?_⟩
    repeat (first | exact below_rf | (refine below_st ?_ ?_; (focus (first | (simp; done) | omega | (simp <;> omega)))) | refine below_al ?_)

set_option maxHeartbeats 1000000 in
theorem law6_shift_n (px py x y : Int) (i1 : IsI px) (i2 : IsI py) (i3 : IsI x) (i4 : IsI y) (hx : okI px x = false) (w : World) :
    Calls Tryd.prog 27 #[.agg #[.int .i64 px, .int .i64 py], .int .i64 x, .int .i64 y] w fun e w' => e = .returned (.tuple #[.agg #[.int .i64 (IntKind.i64.wrap (px + x)), .int .i64 (IntKind.i64.wrap (py + y))], .int .i64 (flI false)]) ∧ Below w.heap.size w w' := by
  have HB0 := Lib.hid (Below.refl w.heap.size w)
  have t1 := okI_test i1 i3; have t2 := okI_test i2 i4
  rw [hx] at t1
  generalize hqx : IntKind.i64.wrap (px + x) = qx at *
  generalize hqy : IntKind.i64.wrap (py + y) = qy at *
  clear t2
  clear hx i1 i2 i3 i4
  rw [show flI false = 0 from rfl]
  cases e1 : decide (qx < px) <;> cases e2 : decide (x < 0) <;> rw [e1, e2] at t1 <;> simp at t1
  all_goals
    go_enter Tryd.func27, Tryd.ntmps27
    go_wp2_with fail
    refine bodyPost_ret (v := .tuple #[.agg #[.int .i64 qx, .int .i64 qy], .int .i64 0]) (by simp [results, Tryd.results27, go_sem]) rfl ⟨rfl, ?_⟩
    repeat (first | exact below_rf | (refine below_st ?_ ?_; (focus (first | (simp; done) | omega | (simp <;> omega)))) | refine below_al ?_)

theorem flI_range (b : Bool) : 0 ≤ flI b ∧ flI b ≤ 1 := by cases b <;> simp [flI]
theorem law6_shift (px py x y : Int) (i1 : IsI px) (i2 : IsI py) (i3 : IsI x) (i4 : IsI y) (t : Bool) (ht : (okI px x && okI py y) = t) (w : World) :
    Calls Tryd.prog 27 #[.agg #[.int .i64 px, .int .i64 py], .int .i64 x, .int .i64 y] w fun e w' => e = .returned (.tuple #[.agg #[.int .i64 (IntKind.i64.wrap (px + x)), .int .i64 (IntKind.i64.wrap (py + y))], .int .i64 (flI t)]) ∧ Below w.heap.size w w' := by
  subst ht
  cases hx : okI px x
  · exact law6_shift_n px py x y i1 i2 i3 i4 hx w
  · cases hy : okI py y
    · exact law6_shift_yn px py x y i1 i2 i3 i4 hx hy w
    · exact law6_shift_yy px py x y i1 i2 i3 i4 hx hy w
end Go.Proofs.YtfjanlfbnliokaaDoor
