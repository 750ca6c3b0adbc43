/- Contracts of the reference's conversions (geofenceref03.Is, Same, power, Int). -/
import Derived.Test.YtoikcgmdlccdbaaDoorRef3c
import Derived.Test.YtoikcgmdlccdbaaDoorLimb0
namespace Go.Proofs.YtoikcgmdlccdbaaDoor
set_option linter.unusedVariables false
set_option linter.unusedSimpArgs false
open Go.RowKit


theorem dg_S (k : Nat) : Dd.Dg (k + 1) (Dd.S k) := by
  have h := Dd.S_pos k
  refine ⟨⟨Int.le_of_lt h, by rw [Dd.S_succ]; omega⟩, fun _ => by rw [Nat.add_sub_cancel]; exact Int.le_refl _⟩
theorem lmb_S_low {k i : Nat} (h : i < k) : Dd.lmb (Dd.S k) i = 0 := by
  have e := Dd.lmb_cong 0 1 h
  rw [Int.zero_add, Int.one_mul] at e
  rw [e, Dd.lmb_zero]
theorem lmb_S_top (k : Nat) : Dd.lmb (Dd.S k) k = 1 := by
  have e := Dd.qt_add_mul 0 1 k
  rw [Int.zero_add, Int.one_mul] at e
  unfold Dd.lmb; rw [e]; unfold Dd.qt; rw [Int.zero_ediv]; rfl
theorem natAbs_S (k : Nat) : ((Dd.S k).natAbs : Int) = Dd.S k := by have := Dd.S_pos k; omega
theorem sg_S (k : Nat) : sg (Dd.S k) = 1 := by unfold sg; exact Int.sign_eq_one_of_pos (Dd.S_pos k)

theorem s4 : Dd.S 4 = 18446744073709551616 := rfl
set_option maxHeartbeats 1000000 in
theorem ref3_Int (x : Int) (hx : Wd.IsI x) (w : World) :
    Calls Tryd.prog 115 #[.int .i64 x] w fun e w' => (∃ A2 k c2, e = .returned (.agg #[.int .i64 (sg x), .slice A2 k c2]) ∧ k ≤ 4 ∧ Nm w' A2 k c2 x) ∧ Below w.heap.size w w' := by
  obtain ⟨i0, hi0, hz0, hz1, hz2⟩ := info_parts info_int
  obtain ⟨p, hp⟩ : ∃ p : Int, p = x.natAbs := ⟨_, rfl⟩
  have hf4 : Dd.Fits 4 p := by unfold Dd.Fits; rw [s4]; unfold Wd.IsI at hx; omega
  have hb1 : Below w.heap.size w (w.alloc (.cells #[.int .i64 0, .slice none 0 0] 97)) := (Below.refl w.heap.size w).alloc (Nat.le_refl _) _
  have hbox := heap_alloc_new w (.cells #[.int .i64 0, .slice none 0 0] 97)
  have hsz : w.heap.size < (w.alloc (.cells #[.int .i64 0, .slice none 0 0] 97)).heap.size := by simp
  obtain ⟨w1, hw1⟩ : ∃ w1, w1 = w.alloc (.cells #[.int .i64 0, .slice none 0 0] 97) := ⟨_, rfl⟩
  rw [← hw1] at hb1 hbox hsz
  have HW := Lib.hid hw1; have HX := Lib.hid hbox; have HB1 := Lib.hid hb1; have HF := Lib.hid hf4; have HP := Lib.hid hp
  have hI := hx
  unfold Wd.IsI at hI
  have e1 : x < 0 → IntKind.u64.wrap (-IntKind.u64.wrap x) = p := by intro h; rw [Wd.wrapU, Wd.wrapU]; unfold Wd.lo; omega
  have e2 : ¬ x < 0 → x = p := by intro h; omega
  have hp0 : 0 ≤ p ∧ p ≤ 9223372036854775808 := by omega
  have E1 := Lib.hid e1; have E2 := Lib.hid e2
  clear hbox hb1 hf4 e1 e2 hx hw1 hp
  by_cases hneg : x < 0
  all_goals
    go_enter Tryd.func115, Tryd.ntmps115
    go_wp2_with fail
    first | rw [E1.out hneg] | skip
    rw [← HW.out]
    go_loopw [3, 5] (fun u v wr => ∃ j : Nat, j ≤ 4 ∧ u = .int .u64 (Dd.qt p j) ∧ wr.ownsRow w1.heap.size 3 1 v j (row .i64 (Dd.lmb p) j) ∧ Below w1.heap.size w1 wr) (fun u _ _ => (intOf u).toNat)
    case atStart => exact ⟨0, Nat.zero_le _, (by rw [Dd.qt_zero]; try rw [← E2.out (by omega)]), World.ownsRow_nil _ _ _ _, Below.refl _ _⟩
    case round =>
      obtain ⟨j, hj, rfl, hown, hbr⟩ := hrel
      have HOW := Lib.hid hown; have HBR := Lib.hid hbr
      clear hown hbr
      have hq0 := Int.ediv_nonneg hp0.1 (Int.le_of_lt (Dd.S_pos j))
      have hqe : 0 ≤ Dd.qt p j ∧ Dd.qt p j ≤ 9223372036854775808 := by
        have h1 := Int.ediv_le_self (b := Dd.S j) hp0.1
        unfold Dd.qt; omega
      have hl : Dd.lmb p j = Dd.qt p j % 65536 := rfl
      have HL := Lib.hid hl; clear hl hq0
      by_cases hz : 0 < Dd.qt p j
      · have hj3 : j < 4 := by
          rcases (by omega : j < 4 ∨ j = 4) with h | h
          · exact h
          · subst h; unfold Dd.qt at hz; rw [Int.ediv_eq_zero_of_lt HF.out.1 HF.out.2] at hz; omega
        have hqs := Dd.qt_succ p j
        have HQ := Lib.hid hqs; clear hqs
        go_wp2_with (at_builtin; refine wpList_append_own _ rfl _ _ 95 rfl w1.heap.size 3 i0 (.int .i64 0) 1 8 Tryd.underlying95 hi0 hz0 hz1 hz2 rfl (by decide) _ _ _ rfl (HOW.out.alloc _) ⟨wr.heap.size, 0, none⟩ 1 1 [.int .i64 (Dd.qt p j % 65536)] rfl rfl (cells_one_new _ _ _) (one_oneCell _ _) (by unfold maxLen; omega) (by omega) (by have := HBR.out.size; simp; omega) ?_)
        intro v' w2 hown2 hgrow _
        have hb3 : Below w1.heap.size w1 w2 := (HBR.out.alloc HBR.out.size _).grown hgrow (by have := HBR.out.size; simp; omega) (own_block_le HOW.out)
        have H3 := Lib.hid (own_push hown2 HL.out.symm); have B3 := Lib.hid hb3
        clear hown2 hgrow hb3
        go_wp2_with fail
        go_roundw
        case rel => exact ⟨j + 1, by omega, by rw [HQ.out], H3.out, B3.out⟩
        case measure => simp [intOf]; omega
      · have hfj : Dd.Fits j p := ⟨hp0.1, by
          have h1 := Int.lt_ediv_add_one_mul_self p (Dd.S_pos j)
          unfold Dd.qt at hqe hz
          rw [show p / Dd.S j = 0 from by omega] at h1; omega⟩
        obtain ⟨A2, c2, rfl, hsl⟩ := Sl.of_own HOW.out
        have HS := Lib.hid hsl; have HTY := Lib.hid (Ty.of_own HOW.out); have HFJ := Lib.hid hfj
        clear hsl hfj
        go_wp2_with fail
        refine (ref3_make16 _ A2 j c2 p x _ HS.out HFJ.out HP.out.symm (fun _ => by unfold sg; first | rw [Int.sign_eq_neg_one_of_neg hneg] | rw [Int.sign_eq_one_of_pos (by omega)]) HTY.out).mono ?_
        rintro e w6 ⟨⟨A3, k3, c3, rfl, hk3, hnm⟩, hb6⟩
        have hb7 : Below w1.heap.size w1 w6 := HBR.out.trans (hb6.mono HBR.out.size)
        have hr2 : w6.heap[w.heap.size]? = some (.cells #[.int .i64 0, .slice none 0 0] 97 (0, 0)) := (hb7.block w.heap.size hsz).trans HX.out
        have q0 : w6.cell? ⟨w.heap.size, 0, none⟩ = some (.int .i64 0) := by simp [World.cell?, hr2]
        have q1 : w6.cell? ⟨w.heap.size, 1, none⟩ = some (.slice none 0 0) := by simp [World.cell?, hr2]
        have q2 : w6.frozen? ⟨w.heap.size, 0, none⟩ = false := by simp [World.frozen?, hr2]
        have q3 : w6.frozen? ⟨w.heap.size, 1, none⟩ = false := by simp [World.frozen?, hr2]
        have HN := Lib.hid hnm; have HR := Lib.hid hr2; have B3 := Lib.hid (HB1.out.trans (hb7.mono HB1.out.size))
        clear hnm hr2 hb7 hb6
        go_wp2_with fail
        refine bodyPost_ret (v := .agg #[.int .i64 (sg x), .slice A3 k3 c3]) (by simp [results, Tryd.results115, go_sem, q0, q1]) rfl ⟨⟨A3, k3, c3, rfl, by omega, ?_⟩, ?_⟩
        · exact (HN.out.set_ HR.out (by decide)).set_ (heap_setCell_same w6 w.heap.size 0 _ _ _ HR.out) (by decide)
        · exact (B3.out.setCell (p := ⟨w.heap.size, 0, none⟩) (Nat.le_refl _) _).setCell (p := ⟨w.heap.size, 1, none⟩) (Nat.le_refl _) _
end Go.Proofs.YtoikcgmdlccdbaaDoor
