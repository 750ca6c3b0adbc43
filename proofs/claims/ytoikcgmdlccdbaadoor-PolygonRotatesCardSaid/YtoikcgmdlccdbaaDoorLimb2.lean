/- Contracts of limb.Add, limb.Sub and limb.Neg: the limbs of the sum, the difference and the negation. -/
import Derived.Test.YtoikcgmdlccdbaaDoorLimb1
import Derived.Test.YtoikcgmdlccdbaaDoorMask
import Derived.Deep.RegionHeld3
import Derived.Deep.AppendLies
namespace Go.Proofs.YtoikcgmdlccdbaaDoor
set_option linter.unusedVariables false
set_option linter.unusedSimpArgs false
open Go.RowKit Wd

theorem word_Add_step (x y : Int) (i : Nat) (w : World) : Calls Tryd.prog 122 #[.int .u64 (lmb x i), .int .u64 (lmb y i), .int .u64 (car x y i)] w fun e w' => e = .returned (.tuple #[.int .u64 (lmb (x + y) i), .int .u64 (car x y (i + 1))]) ∧ w' = w := by
  have h := word_Add _ _ _ (isW_lmb x i) (isW_lmb y i) (isW_car x y i) w
  rw [(add_step x y i).1, (add_step x y i).2] at h
  exact calls_flip h
theorem word_Sub_step (x y : Int) (i : Nat) (w : World) : Calls Tryd.prog 119 #[.int .u64 (lmb x i), .int .u64 (lmb y i), .int .u64 (brw x y i)] w fun e w' => e = .returned (.tuple #[.int .u64 (lmb (x - y) i), .int .u64 (brw x y (i + 1))]) ∧ w' = w := by
  have h := word_Sub _ _ _ (isW_lmb x i) (isW_lmb y i) (isW_brw x y i) w
  rw [(sub_step x y i).1, (sub_step x y i).2] at h
  exact calls_flip h

set_option maxHeartbeats 400000 in
theorem apply_Add (A A' : Option Addr) (n c c' : Nat) (x y : Int) (w : World) (ha : Sl w .u64 A n c (lmb x)) (hb : Sl w .u64 A' n c' (lmb y)) (hn : isN n = true) :
    Calls Tryd.prog 120 #[.agg #[.func (.func 122) #[] #[]], .slice A n c, .slice A' n c', .int .u64 0] w fun e w' => ∃ g, e = .returned (.slice (some ⟨g, 0, none⟩) n n) ∧
      w'.ownsRow w.heap.size 23 1 (.slice (some ⟨g, 0, none⟩) n n) n (row .u64 (lmb (x + y)) n) ∧ Below w.heap.size w w' := by
  obtain ⟨i0, hi0, hz0, hz1, hz2⟩ := info_parts info_u64
  have hn' := isN_true hn
  obtain ⟨b, off, rfl, hlt, hca⟩ := ha.at_ (by omega)
  obtain ⟨b', off', rfl, hlt', hcb⟩ := hb.at_ (by omega)
  have hmax := ha.max; have hmax' := hb.max; have hcap := ha.cap; have hcap' := hb.cap
  have HN := Lib.hid hn; have HA := Lib.hid hca; have HB := Lib.hid hcb
  clear hn hca hcb ha hb
  go_enter Tryd.func120, Tryd.ntmps120
  go_wp2_with fail
  refine (limb_is2 _ (some ⟨b, off, none⟩) (some ⟨b', off', none⟩) n c n c' (by omega) (by omega) _ (by simp [go_sem]) (by simp [go_sem])).mono ?_
  rintro e w1 ⟨rfl, rfl⟩
  rw [HN.out]
  go_wp2_with (at_make; refine wpList_make_full _ rfl _ _ 94 rfl (w.heap.size + 1) 23 i0 (.int .u64 0) 1 Tryd.underlying94 hi0 hz0 hz1 .i64 .i64 (n : Int) (n : Int) n rfl rfl rfl rfl (by rw [hz2]; omega) (by unfold maxLen; omega) (by simp) ?_)
  intro w2 hown hgrow
  have hb2 : Below w.heap.size w w2 := (((Below.refl w.heap.size w).alloc (Nat.le_refl _) _).alloc (by simp) _).grown hgrow (by simp; omega) (by intro k hk; cases hk)
  have hbox : w2.cell? ⟨w.heap.size, 0, none⟩ = some (.func (.func 122) #[] #[]) := by
    rw [World.cell?_of_block (hgrow.block w.heap.size (by simp; omega) (by intro h; cases h))]; simp [go_sem]
  rw [toList_madeCells_one, row_zero .u64 (lmb (x + y)) n] at hown
  have HO := Lib.hid hown; have HX := Lib.hid hbox; have HB2 := Lib.hid hb2
  have hg1 : w.heap.size + 1 + 1 < w2.heap.size := (hown.lt _ rfl).2
  clear hown hbox hgrow hb2
  go_wp2_with fail
  go_loopw [3, 28] (fun cr i wr => ∃ k : Nat, k ≤ n ∧ i = .int .i64 k ∧ cr = .int .u64 (car x y k) ∧ wr.ownsRow (w.heap.size + 1) 23 1 (.slice (some ⟨w.heap.size + 1 + 1, 0, none⟩) n n) n (row .u64 (upd (lmb (x + y)) k) n) ∧ Below (w.heap.size + 1) w2 wr)
    (fun _ i _ => n - (intOf i).toNat)
  case atStart => exact ⟨0, Nat.zero_le _, rfl, by rw [car_zero], HO.out, Below.refl _ _⟩
  case round =>
    clear HO
    obtain ⟨k, hk, rfl, rfl, hown, hbr⟩ := hrel
    by_cases hlt2 : k < n
    · have c1 : wr.cell? ⟨w.heap.size, 0, none⟩ = some (.func (.func 122) #[] #[]) := (hbr.cell (p := ⟨w.heap.size, 0, none⟩) (by simp)).trans HX.out
      have c2 : wr.cell? ⟨b, off + k, none⟩ = some (.int .u64 (lmb x k)) := ((hbr.cell (p := ⟨b, off + k, none⟩) (by simp; omega)).trans (HB2.out.cell (p := ⟨b, off + k, none⟩) hlt)).trans (HA.out k hlt2)
      have c3 : wr.cell? ⟨b', off' + k, none⟩ = some (.int .u64 (lmb y k)) := ((hbr.cell (p := ⟨b', off' + k, none⟩) (by simp; omega)).trans (HB2.out.cell (p := ⟨b', off' + k, none⟩) hlt')).trans (HB.out k hlt2)
      have c4 : wr.cell? ⟨w.heap.size + 1 + 1, k, none⟩ = some (.int .u64 0) := by
        rw [World.ownsRow.cellAt hown k (by omega), row_get hlt2]; simp [upd]
      have c5 : wr.frozen? ⟨w.heap.size + 1 + 1, k, none⟩ = false := World.ownsRow.frozenAt hown k
      have HOW := Lib.hid hown; have HBR := Lib.hid hbr
      clear hown hbr HA HB HX HB2
      go_wp2_with fail
      go_region_held3 (fun w' => w'.cell? ⟨w.heap.size, 0, none⟩ = some (.func (.func 122) #[] #[]) ∧ w'.cell? ⟨b, off + k, none⟩ = some (.int .u64 (lmb x k)) ∧ w'.cell? ⟨b', off' + k, none⟩ = some (.int .u64 (lmb y k))) (first | exact ⟨c1, c2, c3⟩ | exact ⟨cell_far c1 (by simp; omega), cell_far c2 (by simp; omega), cell_far c3 (by simp; omega)⟩) (first | (go_at_call 122; refine (word_Add_step x y k _).mono ?_; rintro e w' ⟨rfl, rfl⟩))
      go_wp2_with fail
      go_roundw
      case rel => exact ⟨k + 1, by omega, by go_num, rfl, (own_store HOW.out rfl hlt2).drew, (HBR.out.setCell (p := ⟨w.heap.size + 1 + 1, k, none⟩) (by simp) _).drew⟩
      case measure => simp [intOf]; omega
    · go_wp2_with fail
      go_ret
      obtain rfl : k = n := by omega
      exact ⟨_, rfl, World.ownsRow_le (by rw [← row_upd_all]; exact hown) (by omega), HB2.out.trans (hbr.mono (by omega))⟩

set_option maxHeartbeats 400000 in
theorem apply_Sub (A A' : Option Addr) (n c c' : Nat) (x y : Int) (w : World) (ha : Sl w .u64 A n c (lmb x)) (hb : Sl w .u64 A' n c' (lmb y)) (hn : isN n = true) :
    Calls Tryd.prog 120 #[.agg #[.func (.func 119) #[] #[]], .slice A n c, .slice A' n c', .int .u64 0] w fun e w' => ∃ g, e = .returned (.slice (some ⟨g, 0, none⟩) n n) ∧
      w'.ownsRow w.heap.size 23 1 (.slice (some ⟨g, 0, none⟩) n n) n (row .u64 (lmb (x - y)) n) ∧ Below w.heap.size w w' := by
  obtain ⟨i0, hi0, hz0, hz1, hz2⟩ := info_parts info_u64
  have hn' := isN_true hn
  obtain ⟨b, off, rfl, hlt, hca⟩ := ha.at_ (by omega)
  obtain ⟨b', off', rfl, hlt', hcb⟩ := hb.at_ (by omega)
  have hmax := ha.max; have hmax' := hb.max; have hcap := ha.cap; have hcap' := hb.cap
  have HN := Lib.hid hn; have HA := Lib.hid hca; have HB := Lib.hid hcb
  clear hn hca hcb ha hb
  go_enter Tryd.func120, Tryd.ntmps120
  go_wp2_with fail
  refine (limb_is2 _ (some ⟨b, off, none⟩) (some ⟨b', off', none⟩) n c n c' (by omega) (by omega) _ (by simp [go_sem]) (by simp [go_sem])).mono ?_
  rintro e w1 ⟨rfl, rfl⟩
  rw [HN.out]
  go_wp2_with (at_make; refine wpList_make_full _ rfl _ _ 94 rfl (w.heap.size + 1) 23 i0 (.int .u64 0) 1 Tryd.underlying94 hi0 hz0 hz1 .i64 .i64 (n : Int) (n : Int) n rfl rfl rfl rfl (by rw [hz2]; omega) (by unfold maxLen; omega) (by simp) ?_)
  intro w2 hown hgrow
  have hb2 : Below w.heap.size w w2 := (((Below.refl w.heap.size w).alloc (Nat.le_refl _) _).alloc (by simp) _).grown hgrow (by simp; omega) (by intro k hk; cases hk)
  have hbox : w2.cell? ⟨w.heap.size, 0, none⟩ = some (.func (.func 119) #[] #[]) := by
    rw [World.cell?_of_block (hgrow.block w.heap.size (by simp; omega) (by intro h; cases h))]; simp [go_sem]
  rw [toList_madeCells_one, row_zero .u64 (lmb (x - y)) n] at hown
  have HO := Lib.hid hown; have HX := Lib.hid hbox; have HB2 := Lib.hid hb2
  have hg1 : w.heap.size + 1 + 1 < w2.heap.size := (hown.lt _ rfl).2
  clear hown hbox hgrow hb2
  go_wp2_with fail
  go_loopw [3, 28] (fun cr i wr => ∃ k : Nat, k ≤ n ∧ i = .int .i64 k ∧ cr = .int .u64 (brw x y k) ∧ wr.ownsRow (w.heap.size + 1) 23 1 (.slice (some ⟨w.heap.size + 1 + 1, 0, none⟩) n n) n (row .u64 (upd (lmb (x - y)) k) n) ∧ Below (w.heap.size + 1) w2 wr)
    (fun _ i _ => n - (intOf i).toNat)
  case atStart => exact ⟨0, Nat.zero_le _, rfl, by rw [brw_zero], HO.out, Below.refl _ _⟩
  case round =>
    clear HO
    obtain ⟨k, hk, rfl, rfl, hown, hbr⟩ := hrel
    by_cases hlt2 : k < n
    · have c1 : wr.cell? ⟨w.heap.size, 0, none⟩ = some (.func (.func 119) #[] #[]) := (hbr.cell (p := ⟨w.heap.size, 0, none⟩) (by simp)).trans HX.out
      have c2 : wr.cell? ⟨b, off + k, none⟩ = some (.int .u64 (lmb x k)) := ((hbr.cell (p := ⟨b, off + k, none⟩) (by simp; omega)).trans (HB2.out.cell (p := ⟨b, off + k, none⟩) hlt)).trans (HA.out k hlt2)
      have c3 : wr.cell? ⟨b', off' + k, none⟩ = some (.int .u64 (lmb y k)) := ((hbr.cell (p := ⟨b', off' + k, none⟩) (by simp; omega)).trans (HB2.out.cell (p := ⟨b', off' + k, none⟩) hlt')).trans (HB.out k hlt2)
      have c4 : wr.cell? ⟨w.heap.size + 1 + 1, k, none⟩ = some (.int .u64 0) := by
        rw [World.ownsRow.cellAt hown k (by omega), row_get hlt2]; simp [upd]
      have c5 : wr.frozen? ⟨w.heap.size + 1 + 1, k, none⟩ = false := World.ownsRow.frozenAt hown k
      have HOW := Lib.hid hown; have HBR := Lib.hid hbr
      clear hown hbr HA HB HX HB2
      go_wp2_with fail
      go_region_held3 (fun w' => w'.cell? ⟨w.heap.size, 0, none⟩ = some (.func (.func 119) #[] #[]) ∧ w'.cell? ⟨b, off + k, none⟩ = some (.int .u64 (lmb x k)) ∧ w'.cell? ⟨b', off' + k, none⟩ = some (.int .u64 (lmb y k))) (first | exact ⟨c1, c2, c3⟩ | exact ⟨cell_far c1 (by simp; omega), cell_far c2 (by simp; omega), cell_far c3 (by simp; omega)⟩) (first | (go_at_call 119; refine (word_Sub_step x y k _).mono ?_; rintro e w' ⟨rfl, rfl⟩))
      go_wp2_with fail
      go_roundw
      case rel => exact ⟨k + 1, by omega, by go_num, rfl, (own_store HOW.out rfl hlt2).drew, (HBR.out.setCell (p := ⟨w.heap.size + 1 + 1, k, none⟩) (by simp) _).drew⟩
      case measure => simp [intOf]; omega
    · go_wp2_with fail
      go_ret
      obtain rfl : k = n := by omega
      exact ⟨_, rfl, World.ownsRow_le (by rw [← row_upd_all]; exact hown) (by omega), HB2.out.trans (hbr.mono (by omega))⟩

theorem apply_Add_no (A A' : Option Addr) (n c m c' : Nat) (w : World) (f g : Nat → Int) (ha : Sl w .u64 A n c f) (hb : Sl w .u64 A' m c' g) (hn : (isN n && isN m) = false ∨ n ≠ m) :
    Calls Tryd.prog 120 #[.agg #[.func (.func 122) #[] #[]], .slice A n c, .slice A' m c', .int .u64 0] w fun e w' => e = .returned (.slice none 0 0) ∧ Below w.heap.size w w' := by
  have hmax := ha.max; have hmax' := hb.max; have hcap := ha.cap; have hcap' := hb.cap
  have hbw := ((Below.refl w.heap.size w).alloc (Nat.le_refl _) (.cells #[.func (.func 122) #[] #[]] 138)).alloc (by simp) (.cells #[.slice A n c, .slice A' m c'] 94)
  have HB := Lib.hid hbw; clear hbw ha hb
  cases hi : (isN n && isN m)
  · have HI := Lib.hid hi; clear hi hn
    go_enter Tryd.func120, Tryd.ntmps120
    go_wp2_with fail
    refine (limb_is2 _ A A' n c m c' (by omega) (by omega) _ (by simp [go_sem]) (by simp [go_sem])).mono ?_
    rintro e w1 ⟨rfl, rfl⟩
    rw [HI.out]
    go_wp2_with fail
    go_ret
    exact ⟨rfl, HB.out⟩
  · have hne : ((n : Int) != (m : Int)) = true := by
      have : n ≠ m := by rcases hn with h | h; (rw [hi] at h; cases h); exact h
      simp; omega
    have HI := Lib.hid hi; clear hi hn
    go_enter Tryd.func120, Tryd.ntmps120
    go_wp2_with fail
    refine (limb_is2 _ A A' n c m c' (by omega) (by omega) _ (by simp [go_sem]) (by simp [go_sem])).mono ?_
    rintro e w1 ⟨rfl, rfl⟩
    rw [HI.out]
    go_wp2_with fail
    go_ret
    exact ⟨rfl, HB.out⟩

theorem limb_Add (A A' : Option Addr) (n c c' : Nat) (x y : Int) (w : World) (ha : Sl w .u64 A n c (lmb x)) (hb : Sl w .u64 A' n c' (lmb y)) (hn : isN n = true) :
    Calls Tryd.prog 113 #[.slice A n c, .slice A' n c'] w fun e w' => ∃ A2 c2, e = .returned (.slice A2 n c2) ∧ Sl w' .u64 A2 n c2 (lmb (x + y)) ∧ Below w.heap.size w w' := by
  go_enter Tryd.func113, Tryd.ntmps113
  go_wp2_with fail
  refine (apply_Add A A' n c c' x y _ ha hb hn).mono ?_
  rintro e w1 ⟨g, rfl, hown, hb1⟩
  obtain ⟨A2, c2, hv, hsl⟩ := Sl.of_own hown
  injection hv with e1 e2 e3
  subst e1 e3
  go_wp2_with fail
  go_ret
  exact ⟨_, _, rfl, hsl, hb1⟩
theorem limb_Add_no (A A' : Option Addr) (n c m c' : Nat) (w : World) (f g : Nat → Int) (ha : Sl w .u64 A n c f) (hb : Sl w .u64 A' m c' g) (hn : (isN n && isN m) = false ∨ n ≠ m) :
    Calls Tryd.prog 113 #[.slice A n c, .slice A' m c'] w fun e w' => e = .returned (.slice none 0 0) ∧ Below w.heap.size w w' := by
  have HN := Lib.hid hn; clear hn
  go_enter Tryd.func113, Tryd.ntmps113
  go_wp2_with fail
  refine (apply_Add_no A A' n c m c' _ f g ha hb HN.out).mono ?_
  rintro e w1 ⟨rfl, hb1⟩
  go_wp2_with fail
  go_ret
  exact ⟨rfl, hb1⟩

theorem apply_Sub_no (A A' : Option Addr) (n c m c' : Nat) (w : World) (f g : Nat → Int) (ha : Sl w .u64 A n c f) (hb : Sl w .u64 A' m c' g) (hn : (isN n && isN m) = false ∨ n ≠ m) :
    Calls Tryd.prog 120 #[.agg #[.func (.func 119) #[] #[]], .slice A n c, .slice A' m c', .int .u64 0] w fun e w' => e = .returned (.slice none 0 0) ∧ Below w.heap.size w w' := by
  have hmax := ha.max; have hmax' := hb.max; have hcap := ha.cap; have hcap' := hb.cap
  have hbw := ((Below.refl w.heap.size w).alloc (Nat.le_refl _) (.cells #[.func (.func 119) #[] #[]] 138)).alloc (by simp) (.cells #[.slice A n c, .slice A' m c'] 94)
  have HB := Lib.hid hbw; clear hbw ha hb
  cases hi : (isN n && isN m)
  · have HI := Lib.hid hi; clear hi hn
    go_enter Tryd.func120, Tryd.ntmps120
    go_wp2_with fail
    refine (limb_is2 _ A A' n c m c' (by omega) (by omega) _ (by simp [go_sem]) (by simp [go_sem])).mono ?_
    rintro e w1 ⟨rfl, rfl⟩
    rw [HI.out]
    go_wp2_with fail
    go_ret
    exact ⟨rfl, HB.out⟩
  · have hne : ((n : Int) != (m : Int)) = true := by
      have : n ≠ m := by rcases hn with h | h; (rw [hi] at h; cases h); exact h
      simp; omega
    have HI := Lib.hid hi; clear hi hn
    go_enter Tryd.func120, Tryd.ntmps120
    go_wp2_with fail
    refine (limb_is2 _ A A' n c m c' (by omega) (by omega) _ (by simp [go_sem]) (by simp [go_sem])).mono ?_
    rintro e w1 ⟨rfl, rfl⟩
    rw [HI.out]
    go_wp2_with fail
    go_ret
    exact ⟨rfl, HB.out⟩

theorem limb_Sub (A A' : Option Addr) (n c c' : Nat) (x y : Int) (w : World) (ha : Sl w .u64 A n c (lmb x)) (hb : Sl w .u64 A' n c' (lmb y)) (hn : isN n = true) :
    Calls Tryd.prog 109 #[.slice A n c, .slice A' n c'] w fun e w' => ∃ A2 c2, e = .returned (.slice A2 n c2) ∧ Sl w' .u64 A2 n c2 (lmb (x - y)) ∧ Below w.heap.size w w' := by
  go_enter Tryd.func109, Tryd.ntmps109
  go_wp2_with fail
  refine (apply_Sub A A' n c c' x y _ ha hb hn).mono ?_
  rintro e w1 ⟨g, rfl, hown, hb1⟩
  obtain ⟨A2, c2, hv, hsl⟩ := Sl.of_own hown
  injection hv with e1 e2 e3
  subst e1 e3
  go_wp2_with fail
  go_ret
  exact ⟨_, _, rfl, hsl, hb1⟩
theorem limb_Sub_no (A A' : Option Addr) (n c m c' : Nat) (w : World) (f g : Nat → Int) (ha : Sl w .u64 A n c f) (hb : Sl w .u64 A' m c' g) (hn : (isN n && isN m) = false ∨ n ≠ m) :
    Calls Tryd.prog 109 #[.slice A n c, .slice A' m c'] w fun e w' => e = .returned (.slice none 0 0) ∧ Below w.heap.size w w' := by
  have HN := Lib.hid hn; clear hn
  go_enter Tryd.func109, Tryd.ntmps109
  go_wp2_with fail
  refine (apply_Sub_no A A' n c m c' _ f g ha hb HN.out).mono ?_
  rintro e w1 ⟨rfl, hb1⟩
  go_wp2_with fail
  go_ret
  exact ⟨rfl, hb1⟩

end Go.Proofs.YtoikcgmdlccdbaaDoor
