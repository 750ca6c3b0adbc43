/- The reference's lists of events. -/
import Derived.Test.YtoikcgmdlccdbaaDoorTape3
import Derived.Test.YtoikcgmdlccdbaaDoorPolyR
import Derived.Test.YtoikcgmdlccdbaaDoorPolyP
namespace Go.Proofs.YtoikcgmdlccdbaaDoor
set_option linter.unusedVariables false
set_option linter.unusedSimpArgs false
open Go.RowKit Wd Go.Shelf

theorem row_snoc {w : World} {n0 : Nat} {g cap : Nat} {L : List Ev} {e : Ev} (h : w.ownsRow n0 51 3 (.slice (some ⟨g, 0, none⟩) (L.length + 1) cap) (L.length + 1) (evL L ++ evC e)) : w.ownsRow n0 51 3 (.slice (some ⟨g, 0, none⟩) (L.length + 1) cap) (L ++ [e]).length (evL (L ++ [e])) := by
  rw [evL_app, List.length_append]; simpa [evL] using h
theorem bne_yes {a b : Nat} (h : ¬ a = b) : ((a : Int) != (b : Int)) = true := by simp; omega
theorem bne_no {a b : Nat} (h : a = b) : ((a : Int) != (b : Int)) = false := by simp; omega
theorem len_le {a b q : Nat} (h1 : a ≤ 4900) (h2 : b ≤ q) (h3 : q ≤ 70) : a + b ≤ 5000 := by omega
theorem inP_eds {n : Nat} (h : inP n) : eds n = fup n n := by unfold eds; rw [if_pos h]
theorem evC_src (w : World) (e : Ev) : ∀ j u, (evC e)[j]? = some u → (w.alloc (.cells #[.int .i64 e.1, .int .i64 e.2.1, .int .i64 e.2.2] 51)).cell? ((⟨w.heap.size, 0, none⟩ : Addr).add j) = some u :=
  cells_src (Bx.new w #[.int .i64 e.1, .int .i64 e.2.1, .int .i64 e.2.2] _) 0 _ (fun j u hj => by
    match j, hj with
    | 0, hj => simpa [evC] using hj
    | 1, hj => simpa [evC] using hj
    | 2, hj => simpa [evC] using hj
    | j + 3, hj => simp [evC] at hj)
theorem evC_one (e : Ev) : ∀ u ∈ evC e, u.oneCell' = true := by intro u hu; simp [evC] at hu; rcases hu with rfl | rfl | rfl <;> rfl
set_option maxRecDepth 100000 in
set_option maxHeartbeats 8000000 in
theorem ref14_LocateEvents (n : Nat) (hn70 : n ≤ 70) (w : World) : Calls Tryd.prog 49 #[.int .i64 (n : Int)] w fun e w' => (∃ A' c', e = .returned (.slice A' (locEvs n (eds n)).length c') ∧ EvS w' A' c' (locEvs n (eds n))) ∧ Below w.heap.size w w' := by
  obtain ⟨i0, hi0, hz0, hz1, hz2⟩ := info_parts infoEv
  by_cases hin : inP n
  · rw [inP_eds hin]
    have hn3 := hin.1; have hn64 := hin.2
    have q2 : (3 : Int) ≤ n := by omega
    have q3 : (n : Int) ≤ 64 := by omega
    go_enter Tryd.func49, Tryd.ntmps49
    go_wp2_with fail
    go_loopw [3, 4] (fun l i wr => ∃ k : Nat, k ≤ n ∧ i = .int .i64 (k : Int) ∧ (∃ a ln c, l = .slice a ln c ∧ wr.ownsRow w.heap.size 51 3 (.slice a ln c) (locEvs n (fup n k)).length (evL (locEvs n (fup n k)))) ∧ Below w.heap.size w wr) (fun _ i _ => n - (intOf i).toNat)
    case atStart => exact ⟨0, Nat.zero_le _, rfl, ⟨none, 0, 0, rfl, rfl, .inl ⟨rfl, rfl⟩⟩, Below.refl _ _⟩
    case round =>
      obtain ⟨k, hk, rfl, ⟨a, ln, c, rfl, hrow⟩, hb⟩ := hrel
      have HROW := Lib.hid hrow; have HBR := Lib.hid hb; clear hrow hb
      by_cases hlt : k < n
      · have hms := Lib.hid (meas_ hlt)
        have hpos := Lib.hid (show (.int .i64 ((k : Int) + 1) : Value) = .int .i64 ((k + 1 : Nat) : Int) from by simp)
        have hw1 : wrap64 ((k : Int) + 1) = (k : Int) + 1 := by rw [← IntWalk.i64_left, IntKind.wrap_i64]; omega
        have HLN := Lib.hid (show (locEvs n (fup n k)).length ≤ 1000 from by rw [locEvs_len, fup_len hk]; omega)
        have hsn := Lib.hid (show locEvs n (fup n (k + 1)) = locEvs n (fup n k) ++ [(5, (k : Int), 0)] from by rw [fup_succ hlt, locEvs_snoc])
        generalize locEvs n (fup n k) = L at *
        go_wp2_with (at_builtin; refine wpList_append_own _ rfl _ _ 49 rfl w.heap.size 51 i0 _ 3 24 Tryd.underlying49 hi0 hz0 hz1 hz2 rfl (by decide) _ _ _ rfl (HROW.out.alloc _) ⟨wr.heap.size, 0, none⟩ 1 1 (evC (5, (k : Int), 0)) rfl rfl (evC_src wr (5, (k : Int), 0)) (evC_one _) (by have := HLN.out; unfold maxLen; omega) (by have := HLN.out; omega) (by have := HBR.out.size; simp; omega) ?_; intro v' w1 hown hgrow hnil; clear hnil; obtain ⟨g', cap', rfl⟩ := ownsRow_succ hown; have HO := Lib.hid (row_snoc hown); have HB1 := Lib.hid ((HBR.out.alloc HBR.out.size (.cells #[.int .i64 ((5, (k : Int), 0) : Ev).1, .int .i64 ((5, (k : Int), 0) : Ev).2.1, .int .i64 ((5, (k : Int), 0) : Ev).2.2] 51)).grown hgrow (by have := HBR.out.size; simp; omega) (fun j e => (row_lt (HROW.out.alloc (.cells #[.int .i64 ((5, (k : Int), 0) : Ev).1, .int .i64 ((5, (k : Int), 0) : Ev).2.1, .int .i64 ((5, (k : Int), 0) : Ev).2.2] 51)) e).1)); clear hown hgrow)
        go_roundw
        case rel => exact ⟨k + 1, hlt, hpos.out, ⟨_, _, _, rfl, by rw [hsn.out]; exact HO.out⟩, HB1.out⟩
        case measure => exact hms.out
      · have hkn : k = n := by omega
        have hkq : ¬ ((k : Int) < n) := by omega
        rw [hkn] at HROW
        clear hkn
        obtain ⟨e1, e2⟩ := evS_row HROW.out
        have E1 := Lib.hid e1; have E2 := Lib.hid e2; clear e1 e2
        go_wp2_with fail
        go_ret
        exact ⟨⟨_, _, by rw [← E1.out]; rfl, E2.out⟩, HBR.out⟩
  · have he : locEvs n (eds n) = [] := by unfold eds; rw [if_neg hin]; rfl
    rw [he]
    unfold inP at hin
    rcases (by omega : n < 3 ∨ (3 ≤ n ∧ 64 < n)) with h | ⟨h2, h⟩
    · have q2 : ¬ ((3 : Int) ≤ n) := by omega
      rcases (by omega : n = 0 ∨ 0 < n) with hn0 | hn0
      · subst hn0
        go_enter Tryd.func49, Tryd.ntmps49
        go_wp2_with fail
        refine wp_loop_rounds 1 ?_
        rw [rounds_succ]
        go_wp2_with fail
        go_ret
        exact ⟨⟨_, 0, rfl, Nat.le_refl _, Nat.zero_le _, fun h => absurd h (Nat.lt_irrefl _)⟩, Below.refl _ _⟩
      · have q1 : (0 : Int) < n := by omega
        go_enter Tryd.func49, Tryd.ntmps49
        go_wp2_with fail
        refine wp_loop_rounds 1 ?_
        rw [rounds_succ]
        go_wp2_with fail
        go_ret
        exact ⟨⟨_, 0, rfl, Nat.le_refl _, Nat.zero_le _, fun h => absurd h (Nat.lt_irrefl _)⟩, Below.refl _ _⟩
    · have q2 : (3 : Int) ≤ n := by omega
      have q3 : ¬ ((n : Int) ≤ 64) := by omega
      have q1 : (0 : Int) < n := by omega
      have q4 : 0 < n := by omega
      go_enter Tryd.func49, Tryd.ntmps49
      go_wp2_with fail
      refine wp_loop_rounds 1 ?_
      rw [rounds_succ]
      go_wp2_with fail
      go_ret
      exact ⟨⟨_, 0, rfl, Nat.le_refl _, Nat.zero_le _, fun h => absurd h (Nat.lt_irrefl _)⟩, Below.refl _ _⟩
set_option maxRecDepth 100000 in
set_option maxHeartbeats 8000000 in
theorem ref14_ValidEvents (n : Nat) (hn70 : n ≤ 70) (w : World) : Calls Tryd.prog 48 #[.int .i64 (n : Int)] w fun e w' => (∃ A' c', e = .returned (.slice A' (valEvs n (eds n)).length c') ∧ EvS w' A' c' (valEvs n (eds n))) ∧ Below w.heap.size w w' := by
  obtain ⟨i0, hi0, hz0, hz1, hz2⟩ := info_parts infoEv
  by_cases hin : inP n
  · rw [inP_eds hin]
    have hn3 := hin.1; have hn64 := hin.2
    have q2 : (3 : Int) ≤ n := by omega
    have q3 : (n : Int) ≤ 64 := by omega
    have hnz : ¬ (n = 0) := by omega
    go_enter Tryd.func48, Tryd.ntmps48
    go_wp2_with fail
    go_loopw [3, 4] (fun l i wr => ∃ k : Nat, k ≤ n ∧ i = .int .i64 (k : Int) ∧ (∃ a ln c, l = .slice a ln c ∧ wr.ownsRow w.heap.size 51 3 (.slice a ln c) (valEvs n (fup n k)).length (evL (valEvs n (fup n k)))) ∧ Below w.heap.size w wr) (fun _ i _ => n - (intOf i).toNat)
    case atStart => exact ⟨0, Nat.zero_le _, rfl, ⟨none, 0, 0, rfl, rfl, .inl ⟨rfl, rfl⟩⟩, Below.refl _ _⟩
    case round =>
      obtain ⟨k, hk, rfl, ⟨a, ln, c, rfl, hrow⟩, hb⟩ := hrel
      have HRO := Lib.hid hrow; have HBO := Lib.hid hb; clear hrow hb
      by_cases hlt : k < n
      · have hmsk := Lib.hid (meas_ hlt)
        have hpok := Lib.hid (show (.int .i64 ((k : Int) + 1) : Value) = .int .i64 ((k + 1 : Nat) : Int) from by simp)
        have hk2 : (k + 1) % n < n := Nat.mod_lt _ (by omega)
        have hmod := tmod_nat k n
        obtain ⟨w1_, w3_⟩ := wrapN1 (m := k) (by omega)
        obtain ⟨wa_, wc_⟩ := wrapN (m := (k + 1) % n) (by omega)
        have hsk : ∀ q, skip n k q = (decide (q = k) || decide (q = (k + 1) % n)) := fun _ => rfl
        have hsn := Lib.hid (show valEvs n (fup n (k + 1)) = valEvs n (fup n k) ++ rowEv n k n from by rw [fup_succ hlt, valEvs_snoc])
        have HL0 := Lib.hid (show (valEvs n (fup n k)).length ≤ 4900 from by
          have h1 := valEvs_len (fup n k); rw [fup_len hk] at h1
          exact Nat.le_trans h1 (Nat.mul_le_mul (show k ≤ 70 by omega) hn70))
        generalize (k + 1) % n = k2 at *
        have HSK := Lib.hid hsk; have HMOD := Lib.hid hmod; clear hsk hmod
        generalize valEvs n (fup n k) = L0 at *
        go_wp2_with fail
        go_loopw [3, 5] (fun l j wr2 => ∃ q : Nat, q ≤ n ∧ j = .int .i64 (q : Int) ∧ (∃ a ln c, l = .slice a ln c ∧ wr2.ownsRow w.heap.size 51 3 (.slice a ln c) (L0 ++ rowEv n k q).length (evL (L0 ++ rowEv n k q))) ∧ Below w.heap.size w wr2) (fun _ j _ => n - (intOf j).toNat)
        case atStart => exact ⟨0, Nat.zero_le _, rfl, ⟨a, ln, c, rfl, by rw [rowEv, List.append_nil]; exact HRO.out⟩, HBO.out⟩
        case round =>
          obtain ⟨q, hq, rfl, ⟨a2, ln2, c2, rfl, hrow⟩, hb⟩ := hrel
          have HROW := Lib.hid hrow; have HBR := Lib.hid hb; clear hrow hb
          by_cases hq1 : q < n
          · have hms := Lib.hid (meas_ hq1)
            have hpos := Lib.hid (show (.int .i64 ((q : Int) + 1) : Value) = .int .i64 ((q + 1 : Nat) : Int) from by simp)
            obtain ⟨u1_, u3_⟩ := wrapN1 (m := q) (Nat.le_trans hq (Nat.le_trans hn70 (by decide)))
            by_cases hskp : q = k ∨ q = k2
            · have hrw := Lib.hid (show rowEv n k (q + 1) = rowEv n k q from by rw [rowEv, HSK.out, show (decide (q = k) || decide (q = k2)) = true from by simp [hskp], if_pos rfl, List.append_nil])
              by_cases hqk : q = k
              · have hb1 : ((q : Int) != (k : Int)) = false := bne_no hqk
                clear hskp hqk
                go_wp2_with fail
                go_roundw
                case rel => exact ⟨q + 1, hq1, hpos.out, ⟨_, _, _, rfl, by rw [hrw.out]; exact HROW.out⟩, HBR.out⟩
                case measure => exact hms.out
              · have hqk2 : q = k2 := hskp.resolve_left hqk
                have hb1 : ((q : Int) != (k : Int)) = true := bne_yes hqk
                have hb3 : ((q : Int) != (k2 : Int)) = false := bne_no hqk2
                clear hskp hqk hqk2
                have hmod := HMOD.out
                go_wp2_with fail
                go_roundw
                case rel => exact ⟨q + 1, hq1, hpos.out, ⟨_, _, _, rfl, by rw [hrw.out]; exact HROW.out⟩, HBR.out⟩
                case measure => exact hms.out
            · have hqk : ¬ (q = k) := fun h => hskp (.inl h)
              have hqk2 : ¬ (q = k2) := fun h => hskp (.inr h)
              have hrw := Lib.hid (show L0 ++ rowEv n k (q + 1) = (L0 ++ rowEv n k q) ++ [(4, (k : Int), (q : Int))] from by rw [rowEv, HSK.out, show (decide (q = k) || decide (q = k2)) = false from by simp [hqk, hqk2], List.append_assoc]; rfl)
              have HLN := Lib.hid (show (L0 ++ rowEv n k q).length ≤ 5000 from by rw [List.length_append]; exact len_le HL0.out (rowEv_len n k q) (Nat.le_trans hq hn70))
              have hb1 : ((q : Int) != (k : Int)) = true := bne_yes hqk
              have hb3 : ((q : Int) != (k2 : Int)) = true := bne_yes hqk2
              clear hskp hqk hqk2
              have hmod := HMOD.out
              generalize L0 ++ rowEv n k q = L at *
              go_wp2_with (at_builtin; refine wpList_append_own _ rfl _ _ 49 rfl w.heap.size 51 i0 _ 3 24 Tryd.underlying49 hi0 hz0 hz1 hz2 rfl (by decide) _ _ _ rfl (HROW.out.alloc _) ⟨wr.heap.size, 0, none⟩ 1 1 (evC (4, (k : Int), (q : Int))) rfl rfl (evC_src wr (4, (k : Int), (q : Int))) (evC_one _) (by have := HLN.out; unfold maxLen; omega) (by have := HLN.out; omega) (by have := HBR.out.size; simp; omega) ?_; intro v' w1 hown hgrow hnil; clear hnil; obtain ⟨g', cap', rfl⟩ := ownsRow_succ hown; have HO := Lib.hid (row_snoc hown); have HB1 := Lib.hid ((HBR.out.alloc HBR.out.size (.cells #[.int .i64 ((4, (k : Int), (q : Int)) : Ev).1, .int .i64 ((4, (k : Int), (q : Int)) : Ev).2.1, .int .i64 ((4, (k : Int), (q : Int)) : Ev).2.2] 51)).grown hgrow (by have := HBR.out.size; simp; omega) (fun j e => (row_lt (HROW.out.alloc (.cells #[.int .i64 ((4, (k : Int), (q : Int)) : Ev).1, .int .i64 ((4, (k : Int), (q : Int)) : Ev).2.1, .int .i64 ((4, (k : Int), (q : Int)) : Ev).2.2] 51)) e).1)); clear hown hgrow)
              go_roundw
              case rel => exact ⟨q + 1, hq1, hpos.out, ⟨_, _, _, rfl, by rw [hrw.out]; exact HO.out⟩, HB1.out⟩
              case measure => exact hms.out
          · have hqn : q = n := Nat.le_antisymm hq (Nat.le_of_not_lt hq1)
            have hqq : ¬ ((q : Int) < n) := fun h => hq1 (Int.ofNat_lt.1 h)
            rw [hqn] at HROW
            clear hqn
            go_wp2_with fail
            go_roundw
            case rel => exact ⟨k + 1, hlt, hpok.out, ⟨_, _, _, rfl, by rw [hsn.out]; exact HROW.out⟩, HBR.out⟩
            case measure => exact hmsk.out
      · have hkn : k = n := by omega
        have hkq : ¬ ((k : Int) < n) := by omega
        rw [hkn] at HRO
        clear hkn
        obtain ⟨e1, e2⟩ := evS_row HRO.out
        have E1 := Lib.hid e1; have E2 := Lib.hid e2; clear e1 e2
        go_wp2_with fail
        go_ret
        exact ⟨⟨_, _, by rw [← E1.out]; rfl, E2.out⟩, HBO.out⟩
  · have he : valEvs n (eds n) = [] := by unfold eds; rw [if_neg hin]; rfl
    rw [he]
    unfold inP at hin
    rcases (by omega : n < 3 ∨ (3 ≤ n ∧ 64 < n)) with h | ⟨h2, h⟩
    · have q2 : ¬ ((3 : Int) ≤ n) := by omega
      rcases (by omega : n = 0 ∨ 0 < n) with hn0 | hn0
      · subst hn0
        go_enter Tryd.func48, Tryd.ntmps48
        go_wp2_with fail
        refine wp_loop_rounds 1 ?_
        rw [rounds_succ]
        go_wp2_with fail
        go_ret
        exact ⟨⟨_, 0, rfl, Nat.le_refl _, Nat.zero_le _, fun h => absurd h (Nat.lt_irrefl _)⟩, Below.refl _ _⟩
      · have q1 : (0 : Int) < n := by omega
        go_enter Tryd.func48, Tryd.ntmps48
        go_wp2_with fail
        refine wp_loop_rounds 1 ?_
        rw [rounds_succ]
        go_wp2_with fail
        go_ret
        exact ⟨⟨_, 0, rfl, Nat.le_refl _, Nat.zero_le _, fun h => absurd h (Nat.lt_irrefl _)⟩, Below.refl _ _⟩
    · have q2 : (3 : Int) ≤ n := by omega
      have q3 : ¬ ((n : Int) ≤ 64) := by omega
      have q1 : (0 : Int) < n := by omega
      have q4 : 0 < n := by omega
      go_enter Tryd.func48, Tryd.ntmps48
      go_wp2_with fail
      refine wp_loop_rounds 1 ?_
      rw [rounds_succ]
      go_wp2_with fail
      go_ret
      exact ⟨⟨_, 0, rfl, Nat.le_refl _, Nat.zero_le _, fun h => absurd h (Nat.lt_irrefl _)⟩, Below.refl _ _⟩
end Go.Proofs.YtoikcgmdlccdbaaDoor
