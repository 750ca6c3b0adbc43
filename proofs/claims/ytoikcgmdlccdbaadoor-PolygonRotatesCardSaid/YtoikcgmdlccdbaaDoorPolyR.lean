/- Contracts of the reference of layer 14. -/
import Derived.Test.YtoikcgmdlccdbaaDoorPolyO
import Derived.LoopTactic
namespace Go.Proofs.YtoikcgmdlccdbaaDoor
set_option linter.unusedVariables false
set_option linter.unusedSimpArgs false
open Go.RowKit Wd

set_option maxHeartbeats 4000000 in
theorem ref14_side (b off n c : Nat) (f g : Nat → Int) (k : Nat) (x y : Int) (hin : inP n) (hk : k < n) (hx : IsI x) (hy : IsI y) (w : World) (hp : Pts w (some ⟨b, off, none⟩) n c f g) :
    Calls Tryd.prog 72 #[.slice (some ⟨b, off, none⟩) n c, .int .i64 (k : Int), .agg #[.int .i64 x, .int .i64 y]] w fun e w' => e = .returned (.int .i64 (sg (edg f g n k x y))) ∧ Below w.heap.size w w' := by
  have hn3 := hin.1; have hn64 := hin.2
  have hw1 : wrap64 ((k : Int) + 1) = (k : Int) + 1 := by rw [← IntWalk.i64_left, IntKind.wrap_i64]; omega
  have hw2 : IntKind.i64.wrap ((k : Int) + 1) = (k : Int) + 1 := by rw [IntKind.wrap_i64]; omega
  have hk2 : (k + 1) % n < n := Nat.mod_lt _ (by omega)
  have hmod := tmod_nat k n
  have hw3 : wrap64 (((k + 1) % n : Nat) : Int) = (((k + 1) % n : Nat) : Int) := by rw [← IntWalk.i64_left, IntKind.wrap_i64]; omega
  have hw4 : IntKind.i64.wrap (((k + 1) % n : Nat) : Int) = (((k + 1) % n : Nat) : Int) := by rw [IntKind.wrap_i64]; omega
  have hp3 := isIP2 hp hk hk2 hx hy
  have FE := Lib.hid (hp.one hk); have FG := Lib.hid (hp.one hk2)
  have HP := Lib.hid hp3; clear hp3
  have HD := Lib.hid (show edg f g n k x y = det (f k) (g k) (f ((k + 1) % n)) (g ((k + 1) % n)) x y from rfl)
  rw [HD.out]
  have hm := Nat.le_trans hp.cap hp.max
  clear hp HD
  generalize (k + 1) % n = k2 at *
  have hnz : ¬ (n = 0) := by omega
  have HB0 := Lib.hid (Below.refl w.heap.size w)
  go_enter Tryd.func72, Tryd.ntmps72
  go_wp2_with fail
  have B : Below w.heap.size w (w.alloc (.cells #[.int .i64 x, .int .i64 y] 28)) := (HB0.out.alloc HB0.out.size _)
  have C : Below w.heap.size w (w.alloc (.cells #[.int .i64 x, .int .i64 y] 28)) := ((Below.refl w.heap.size w).alloc (Nat.le_refl _) _)
  have X0 : Bx (w.alloc (.cells #[.int .i64 x, .int .i64 y] 28)) (w.heap.size) #[.int .i64 x, .int .i64 y] 28 := by simpa using (Bx.new w #[.int .i64 x, .int .i64 y] 28)
  have FE_1 := Lib.hid (FE.out.below C (Nat.le_refl _))
  have FG_1 := Lib.hid (FG.out.below C (Nat.le_refl _))
  have HB1 := Lib.hid B
  have FP_1 := Lib.hid X0
  clear B C X0 HB0 FE FG
  generalize (w.alloc (.cells #[.int .i64 x, .int .i64 y] 28)) = w1 at *
  have RB1 := Lib.hid (below_drew0 w1)
  have QF1 := Lib.hid (show ∀ w', Below w1.heap.size w1 w' → w'.cell? ⟨b, off + k * 2, none⟩ = some (.int .i64 (f k)) ∧ w'.cell? ⟨b, off + k * 2 + 1, none⟩ = some (.int .i64 (g k)) ∧ w'.cell? ⟨b, off + k2 * 2, none⟩ = some (.int .i64 (f k2)) ∧ w'.cell? ⟨b, off + k2 * 2 + 1, none⟩ = some (.int .i64 (g k2)) ∧ w'.cell? ⟨w.heap.size, 0, none⟩ = some (.int .i64 x) ∧ w'.cell? ⟨w.heap.size, 1, none⟩ = some (.int .i64 y) from fun w' hb => ⟨(FE_1.out.below hb (Nat.le_refl _)).x, (FE_1.out.below hb (Nat.le_refl _)).y, (FG_1.out.below hb (Nat.le_refl _)).x, (FG_1.out.below hb (Nat.le_refl _)).y, (FP_1.out.below hb (Nat.le_refl _)).cell 0 (v := .int .i64 x) rfl, (FP_1.out.below hb (Nat.le_refl _)).cell 1 (v := .int .i64 y) rfl⟩)
  refine wp_region_held_drew (S := fun w' => w'.cell? ⟨b, off + k * 2, none⟩ = some (.int .i64 (f k)) ∧ w'.cell? ⟨b, off + k * 2 + 1, none⟩ = some (.int .i64 (g k)) ∧ w'.cell? ⟨b, off + k2 * 2, none⟩ = some (.int .i64 (f k2)) ∧ w'.cell? ⟨b, off + k2 * 2 + 1, none⟩ = some (.int .i64 (g k2)) ∧ w'.cell? ⟨w.heap.size, 0, none⟩ = some (.int .i64 x) ∧ w'.cell? ⟨w.heap.size, 1, none⟩ = some (.int .i64 y)) (by kernel_rfl) (QF1.out _ RB1.out) (fun hHeld => ?_)
  refine wpAnyH_take (i := 0) (v := ?_) (by simp only [List.getElem?_toArray, List.getElem?_cons_succ, List.getElem?_cons_zero]; rfl) (by kernel_rfl) (by kernel_rfl) (by kernel_rfl) (by intro _ _ _ h; exact h) (Or.inl ⟨by rfl, ?_⟩) hHeld ?_
  rotate_left 1
  · intro w hSw; (try dsimp only at hSw); go_simp; try with_reducible rfl
  try simp only [Act.put, List.setIfInBounds_toArray, List.set_cons_zero, List.set_cons_succ]
  refine wpAnyH_take (i := 1) (v := ?_) (by simp only [List.getElem?_toArray, List.getElem?_cons_succ, List.getElem?_cons_zero]; rfl) (by kernel_rfl) (by kernel_rfl) (by kernel_rfl) (by intro _ _ _ h; exact h) (Or.inl ⟨by rfl, ?_⟩) hHeld ?_
  rotate_left 1
  · intro w hSw; (try dsimp only at hSw); go_simp; try with_reducible rfl
  try simp only [Act.put, List.setIfInBounds_toArray, List.set_cons_zero, List.set_cons_succ]
  refine wpAnyH_take (i := 2) (v := ?_) (by simp only [List.getElem?_toArray, List.getElem?_cons_succ, List.getElem?_cons_zero]; rfl) (by kernel_rfl) (by kernel_rfl) (by kernel_rfl) (by intro _ _ _ h; exact h) (Or.inl ⟨by rfl, ?_⟩) hHeld ?_
  rotate_left 1
  · intro w hSw; (try dsimp only at hSw); go_simp; try with_reducible rfl
  try simp only [Act.put, List.setIfInBounds_toArray, List.set_cons_zero, List.set_cons_succ]
  refine wpAnyH_take (i := 3) (v := ?_) (by simp only [List.getElem?_toArray, List.getElem?_cons_succ, List.getElem?_cons_zero]; rfl) (by kernel_rfl) (by kernel_rfl) (by kernel_rfl) (by intro _ _ _ h; exact h) (Or.inl ⟨by rfl, ?_⟩) hHeld ?_
  rotate_left 1
  · intro w hSw; (try dsimp only at hSw); go_simp; try with_reducible rfl
  try simp only [Act.put, List.setIfInBounds_toArray, List.set_cons_zero, List.set_cons_succ]
  refine wpAnyH_take (i := 4) (v := ?_) (by simp only [List.getElem?_toArray, List.getElem?_cons_succ, List.getElem?_cons_zero]; rfl) (by kernel_rfl) (by kernel_rfl) (by kernel_rfl) (by intro _ _ _ h; exact h) (Or.inl ⟨by rfl, ?_⟩) hHeld ?_
  rotate_left 1
  · intro w hSw; (try dsimp only at hSw); go_simp; try with_reducible rfl
  try simp only [Act.put, List.setIfInBounds_toArray, List.set_cons_zero, List.set_cons_succ]
  refine wpAnyH_take (i := 5) (v := ?_) (by simp only [List.getElem?_toArray, List.getElem?_cons_succ, List.getElem?_cons_zero]; rfl) (by kernel_rfl) (by kernel_rfl) (by kernel_rfl) (by intro _ _ _ h; exact h) (Or.inl ⟨by rfl, ?_⟩) hHeld ?_
  rotate_left 1
  · intro w hSw; (try dsimp only at hSw); go_simp; try with_reducible rfl
  try simp only [Act.put, List.setIfInBounds_toArray, List.set_cons_zero, List.set_cons_succ]
  refine wpAnyH_take (i := 6) (v := ?_) (by simp only [List.getElem?_toArray, List.getElem?_cons_succ, List.getElem?_cons_zero]; rfl) (by kernel_rfl) (by kernel_rfl) (by kernel_rfl) (by intro _ _ _ h; exact h) (Or.inl ⟨by rfl, ?_⟩) hHeld ?_
  rotate_left 1
  · intro w hSw; (try dsimp only at hSw); go_simp; try with_reducible rfl
  try simp only [Act.put, List.setIfInBounds_toArray, List.set_cons_zero, List.set_cons_succ]
  refine wpAnyH_take (i := 7) (v := ?_) (by simp only [List.getElem?_toArray, List.getElem?_cons_succ, List.getElem?_cons_zero]; rfl) (by kernel_rfl) (by kernel_rfl) (by kernel_rfl) (by intro _ _ _ h; exact h) (Or.inl ⟨by rfl, ?_⟩) hHeld ?_
  rotate_left 1
  · intro w hSw; (try dsimp only at hSw); go_simp; try with_reducible rfl
  try simp only [Act.put, List.setIfInBounds_toArray, List.set_cons_zero, List.set_cons_succ]
  refine wpAnyH_take (i := 8) (v := ?_) (by simp only [List.getElem?_toArray, List.getElem?_cons_succ, List.getElem?_cons_zero]; rfl) (by kernel_rfl) (by kernel_rfl) (by kernel_rfl) (by intro _ _ _ h; exact h) (Or.inl ⟨by rfl, ?_⟩) hHeld ?_
  rotate_left 1
  · intro w hSw; (try dsimp only at hSw); go_simp; try with_reducible rfl
  try simp only [Act.put, List.setIfInBounds_toArray, List.set_cons_zero, List.set_cons_succ]
  refine wpAnyH_take (i := 9) (v := ?_) (by simp only [List.getElem?_toArray, List.getElem?_cons_succ, List.getElem?_cons_zero]; rfl) (by kernel_rfl) (by kernel_rfl) (by kernel_rfl) (by intro _ _ _ h; exact h) (Or.inl ⟨by rfl, ?_⟩) hHeld ?_
  rotate_left 1
  · intro w hSw; (try dsimp only at hSw); go_simp; try with_reducible rfl
  try simp only [Act.put, List.setIfInBounds_toArray, List.set_cons_zero, List.set_cons_succ]
  refine wpAnyH_take (i := 10) (v := ?_) (by simp only [List.getElem?_toArray, List.getElem?_cons_succ, List.getElem?_cons_zero]; rfl) (by kernel_rfl) (by kernel_rfl) (by kernel_rfl) (by intro _ _ _ h; exact h) (Or.inl ⟨by rfl, ?_⟩) hHeld ?_
  rotate_left 1
  · intro w hSw; (try dsimp only at hSw); go_simp; try with_reducible rfl
  try simp only [Act.put, List.setIfInBounds_toArray, List.set_cons_zero, List.set_cons_succ]
  refine wpAnyH_take (i := 11) (v := ?_) (by simp only [List.getElem?_toArray, List.getElem?_cons_succ, List.getElem?_cons_zero]; rfl) (by kernel_rfl) (by kernel_rfl) (by kernel_rfl) (by intro _ _ _ h; exact h) (Or.inl ⟨by rfl, ?_⟩) hHeld ?_
  rotate_left 1
  · intro w hSw; (try dsimp only at hSw); go_simp; try with_reducible rfl
  try simp only [Act.put, List.setIfInBounds_toArray, List.set_cons_zero, List.set_cons_succ]
  refine wpAnyH_take (i := 12) (v := ?_) (by simp only [List.getElem?_toArray, List.getElem?_cons_succ, List.getElem?_cons_zero]; rfl) (by kernel_rfl) (by kernel_rfl) (by kernel_rfl) (by intro _ _ _ h; exact h) (Or.inl ⟨by rfl, ?_⟩) hHeld ?_
  rotate_left 1
  · intro w hSw; (try dsimp only at hSw); go_simp; try with_reducible rfl
  try simp only [Act.put, List.setIfInBounds_toArray, List.set_cons_zero, List.set_cons_succ]
  refine wpAnyH_ready (rs := [13]) (by kernel_rfl) (by simp) ?_
  refine AllReadyH.cons (by simp only [List.getElem?_toArray, List.getElem?_cons_succ, List.getElem?_cons_zero]; rfl) (fun K hK => ?_) AllReadyH.nil
  go_simp
  refine (ref6_Sign _ _ _ _ _ _ HP.out _).mono ?_
  rintro e w2 ⟨rfl, B⟩
  have RB2 := Lib.hid (RB1.out.trans (B.mono RB1.out.size))
  clear B 
  go_wp2_with fail
  refine hK.out _ _ (QF1.out _ RB2.out) (fun hHeld2 => ?_)
  clear hK K hHeld; have hHeld := hHeld2; clear hHeld2
  try simp only [Act.put, List.setIfInBounds_toArray, List.set_cons_zero, List.set_cons_succ]
  refine wpAnyH_take (i := 14) (v := ?_) (by simp only [List.getElem?_toArray, List.getElem?_cons_succ, List.getElem?_cons_zero]; rfl) (by kernel_rfl) (by kernel_rfl) (by kernel_rfl) (by intro _ _ _ h; exact h) (Or.inl ⟨by rfl, ?_⟩) hHeld ?_
  rotate_left 1
  · intro w hSw; (try dsimp only at hSw); go_simp; try with_reducible rfl
  try simp only [Act.put, List.setIfInBounds_toArray, List.set_cons_zero, List.set_cons_succ]
  refine wpAnyH_done (by kernel_rfl) ?_ _
  have FE_2 := Lib.hid (FE_1.out.below RB2.out (Nat.le_refl _))
  have FG_2 := Lib.hid (FG_1.out.below RB2.out (Nat.le_refl _))
  have FP_2 := Lib.hid (FP_1.out.below RB2.out (Nat.le_refl _))
  have HB2 := Lib.hid (HB1.out.trans (RB2.out.mono HB1.out.size))
  clear hHeld HB1 FE_1 FG_1 FP_1
  go_wp2_with fail
  go_ret
  exact ⟨rfl, HB2.out⟩

theorem meas_ {n q : Nat} (h : q < n) : n - (intOf (.int .i64 ((q : Int) + 1))).toNat < n - (intOf (.int .i64 (q : Int))).toNat := by
  simp only [intOf]; omega
theorem validP_bad {f g : Nat → Int} {n i j : Nat} (hi : i < n) (hj : j < n) (h1 : j ≠ i) (h2 : j ≠ (i + 1) % n) (h : sg (edg f g n i (f j) (g j)) ≠ ori f g n) : validP f g n = false := by
  cases hv : validP f g n with
  | false => rfl
  | true => exact absurd ((validP_iff.1 hv).2.2 i j hi hj h1 h2) h
theorem validP_end {f g : Nat → Int} {n : Nat} (hin : inP n) (h : ∀ i, i < n → ∀ j, j < n → okAt f g n (ori f g n) i j = true) : validP f g n = !decide (ori f g n = 0) := by
  unfold validP
  rw [show allB (fun i => allB (okAt f g n (ori f g n) i) n) n = true from (allB_iff _ _).2 fun i hi => (allB_iff _ _).2 fun j hj => h i hi j hj, show decide (inP n) = true from by simpa using hin]
  simp
set_option maxRecDepth 20000 in
set_option maxHeartbeats 8000000 in
theorem ref14_Valid (A : Option Addr) (n c : Nat) (f g : Nat → Int) (w : World) (hp : Pts w A n c f g) :
    Calls Tryd.prog 41 #[.slice A n c] w fun e w' => e = .returned (.bool (validP f g n)) ∧ Below w.heap.size w w' := by
  have hm := Nat.le_trans hp.cap hp.max
  have HP := Lib.hid hp
  have HB0 := Lib.hid (Below.refl w.heap.size w)
  by_cases hin : inP n
  rotate_left
  · rw [validP_out hin]
    go_enter Tryd.func41, Tryd.ntmps41
    go_wp2_with fail
    refine (ref14_Is _ n c hm _).mono ?_
    rintro e w1 ⟨rfl, B⟩
    have HB1 := Lib.hid (HB0.out.trans (B.mono HB0.out.size))
    clear B  HB0
    rw [show decide (inP n) = false from by simpa using hin]
    go_wp2_with fail
    go_ret
    exact ⟨rfl, HB1.out⟩
  have hn3 := hin.1; have hn64 := hin.2
  obtain ⟨b, off, rfl⟩ := hp.some (by omega)
  have hr := ori_range f g n
  clear hp
  go_enter Tryd.func41, Tryd.ntmps41
  go_wp2_with fail
  refine (ref14_Is _ n c hm _).mono ?_
  rintro e w1 ⟨rfl, B⟩
  have HB1 := Lib.hid (HB0.out.trans (B.mono HB0.out.size))
  have FX_1 := Lib.hid (HP.out.below B (Nat.le_refl _))
  clear B  HB0 HP
  rw [show decide (inP n) = true from by simpa using hin]
  go_wp2_with fail
  refine (ref14_Orientation _ n c f g _ FX_1.out).mono ?_
  rintro e w2 ⟨rfl, B⟩
  have HB2 := Lib.hid (HB1.out.trans (B.mono HB1.out.size))
  have FX_2 := Lib.hid (FX_1.out.below B (Nat.le_refl _))
  clear B  HB1 FX_1
  have HX := FX_2; have HBX := HB2
  obtain ⟨s, hs_⟩ : ∃ s, s = ori f g n := ⟨_, rfl⟩
  rw [← hs_] at hr ⊢
  have hs := Lib.hid hs_; clear hs_
  go_wp2_with fail
  go_loopw [4] (fun i wr => ∃ k : Nat, k ≤ n ∧ i = .int .i64 (k : Int) ∧ (∀ i, i < k → ∀ j, j < n → okAt f g n s i j = true) ∧ Below w2.heap.size w2 wr) (fun i _ => n - (intOf i).toNat)
  case atStart => exact ⟨0, Nat.zero_le _, rfl, fun _ h => absurd h (Nat.not_lt_zero _), Below.refl _ _⟩
  case round =>
    obtain ⟨k, hk, rfl, hok, hb⟩ := hrel
    by_cases hlt : k < n
    · have hw1 : wrap64 ((k : Int) + 1) = (k : Int) + 1 := by rw [← IntWalk.i64_left, IntKind.wrap_i64]; omega
      have hw2 : IntKind.i64.wrap ((k : Int) + 1) = (k : Int) + 1 := by rw [IntKind.wrap_i64]; omega
      have hk2 : (k + 1) % n < n := Nat.mod_lt _ (by omega)
      have hmod := tmod_nat k n
      have hw3 : wrap64 (((k + 1) % n : Nat) : Int) = (((k + 1) % n : Nat) : Int) := by rw [← IntWalk.i64_left, IntKind.wrap_i64]; omega
      have hw4 : IntKind.i64.wrap (((k + 1) % n : Nat) : Int) = (((k + 1) % n : Nat) : Int) := by rw [IntKind.wrap_i64]; omega
      obtain ⟨k2, hK2_⟩ : ∃ k2, k2 = (k + 1) % n := ⟨_, rfl⟩
      rw [← hK2_] at hk2 hmod hw3 hw4
      have hK2 := Lib.hid hK2_; clear hK2_
      have hnz : ¬ (n = 0) := by omega
      go_wp2_with fail
      go_loopw [5] (fun j wr2 => ∃ q : Nat, q ≤ n ∧ j = .int .i64 (q : Int) ∧ (∀ j, j < q → okAt f g n s k j = true) ∧ Below w2.heap.size w2 wr2) (fun j _ => n - (intOf j).toNat)
      case atStart => exact ⟨0, Nat.zero_le _, rfl, fun _ h => absurd h (Nat.not_lt_zero _), hb⟩
      case round =>
        obtain ⟨q, hq, rfl, hokq, hb2⟩ := hrel
        by_cases hq1 : q < n
        · have hP := Lib.hid (HX.out.below hb2 (Nat.le_refl _))
          have hb2' := Lib.hid hb2; clear hb2
          have done_ : okAt f g n s k q = true → ∀ j, j < q + 1 → okAt f g n s k j = true := fun h j hj => by
            rcases (by omega : j < q ∨ j = q) with h' | rfl
            · exact hokq j h'
            · exact h
          have hokk : okAt f g n s k k = true := by simp [okAt, skip]
          have hok2 : okAt f g n s k k2 = true := by simp [okAt, skip, hK2.out]
          have hms := Lib.hid (meas_ hq1)
          have hpos := Lib.hid (show (.int .i64 ((q : Int) + 1) : Value) = .int .i64 ((q + 1 : Nat) : Int) from by simp)
          by_cases hqk : q = k
          · have hrq := Lib.hid (done_ (by rw [hqk]; exact hokk))
            clear done_ hokk hok2
            go_wp2_with fail
            go_roundw
            case rel => exact ⟨q + 1, hq1, by rw [← hqk]; exact hpos.out, hrq.out, hb2'.out⟩
            case measure => rw [← hqk]; exact hms.out
          by_cases hqk2 : q = k2
          · have hrq := Lib.hid (done_ (by rw [hqk2]; exact hok2))
            clear done_ hokk hok2
            go_wp2_with fail
            go_roundw
            case rel => exact ⟨q + 1, hq1, by rw [← hqk2]; exact hpos.out, hrq.out, hb2'.out⟩
            case measure => rw [← hqk2]; exact hms.out
          have hb1 : ((q : Int) != (k : Int)) = true := by simp; omega
          have hb3 : ((q : Int) != (k2 : Int)) = true := by simp; omega
          have c1 := (hP.out.one hq1).x
          have c2 := (hP.out.one hq1).y
          have hi := hP.out.isi q hq1
          by_cases hts : sg (edg f g n k (f q) (g q)) = s
          · go_wp2_with fail
            refine (ref14_side b off n c f g k (f q) (g q) hin hlt hi.1 hi.2 _ hP.out).mono ?_
            rintro e w9 ⟨rfl, B⟩
            rw [hts]
            have HB9 := Lib.hid (hb2'.out.trans (B.mono hb2'.out.size)); clear B c1 c2
            go_wp2_with fail
            go_roundw
            case rel => exact ⟨q + 1, hq1, hpos.out, done_ (by simp [okAt, hts]), HB9.out⟩
            case measure => exact hms.out
          · go_wp2_with fail
            refine (ref14_side b off n c f g k (f q) (g q) hin hlt hi.1 hi.2 _ hP.out).mono ?_
            rintro e w9 ⟨rfl, B⟩
            have HB9 := Lib.hid (hb2'.out.trans (B.mono hb2'.out.size)); clear B c1 c2
            have hbad := Lib.hid (validP_bad (f := f) (g := g) hlt hq1 hqk (by rw [← hK2.out]; exact hqk2) (by rw [← hs.out]; exact hts))
            generalize sg (edg f g n k (f q) (g q)) = t at *
            have hne : (t != s) = true := by simpa using hts
            go_wp2_with fail
            go_ret
            exact ⟨by rw [hbad.out]; rfl, HBX.out.trans (HB9.out.mono HBX.out.size)⟩
        · have hqn : q = n := by omega
          rw [hqn] at hokq
          have hmk := Lib.hid (meas_ hlt)
          have hpk := Lib.hid (show (.int .i64 ((k : Int) + 1) : Value) = .int .i64 ((k + 1 : Nat) : Int) from by simp)
          have hb2' := Lib.hid hb2; clear hb2
          go_wp2_with fail
          go_roundw
          case rel => exact ⟨k + 1, hlt, hpk.out, fun i hi j hj => by
            rcases Nat.lt_or_eq_of_le (Nat.le_of_lt_succ hi) with h | h
            · exact hok i h j hj
            · rw [h]; exact hokq j hj, hb2'.out⟩
          case measure => exact hmk.out
    · obtain rfl : k = n := by omega
      have he := Lib.hid (validP_end (f := f) (g := g) hin (fun i hi j hj => by rw [← hs.out]; exact hok i hi j hj))
      have hb' := Lib.hid hb; clear hb
      by_cases h0 : s = 0
      · subst h0
        go_wp2_with fail
        go_ret
        exact ⟨by rw [he.out, ← hs.out]; rfl, HBX.out.trans (hb'.out.mono HBX.out.size)⟩
      · go_wp2_with fail
        go_ret
        exact ⟨by rw [he.out, ← hs.out]; simp [h0], HBX.out.trans (hb'.out.mono HBX.out.size)⟩

set_option maxRecDepth 20000 in
set_option maxHeartbeats 8000000 in
theorem ref14_Locate (A : Option Addr) (n c : Nat) (f g : Nat → Int) (x y : Int) (hx : IsI x) (hy : IsI y) (w : World) (hp : Pts w A n c f g) :
    Calls Tryd.prog 45 #[.slice A n c, .agg #[.int .i64 x, .int .i64 y]] w fun e w' => e = .returned (.int .i64 (locP f g n x y)) ∧ Below w.heap.size w w' := by
  have hm := Nat.le_trans hp.cap hp.max
  have HP := Lib.hid hp
  have HB0 := Lib.hid (Below.refl w.heap.size w)
  by_cases hin : inP n
  rotate_left
  · rw [locP_out hin]
    go_enter Tryd.func45, Tryd.ntmps45
    go_wp2_with fail
    have B : Below w.heap.size w (w.alloc (.cells #[.int .i64 x, .int .i64 y] 28)) := (HB0.out.alloc HB0.out.size _)
    have C : Below w.heap.size w (w.alloc (.cells #[.int .i64 x, .int .i64 y] 28)) := ((Below.refl w.heap.size w).alloc (Nat.le_refl _) _)
    have X0 : Bx (w.alloc (.cells #[.int .i64 x, .int .i64 y] 28)) (w.heap.size) #[.int .i64 x, .int .i64 y] 28 := by simpa using (Bx.new w #[.int .i64 x, .int .i64 y] 28)
    have HB1 := Lib.hid B
    have FP_1 := Lib.hid X0
    clear B C X0 HB0 
    generalize (w.alloc (.cells #[.int .i64 x, .int .i64 y] 28)) = w1 at *
    skip
    refine (ref14_Is _ n c hm _).mono ?_
    rintro e w2 ⟨rfl, B⟩
    have HB2 := Lib.hid (HB1.out.trans (B.mono HB1.out.size))
    have FP_2 := Lib.hid (FP_1.out.below B (Nat.le_refl _))
    clear B  HB1 FP_1
    rw [show decide (inP n) = false from by simpa using hin]
    go_wp2_with fail
    go_ret
    exact ⟨rfl, HB2.out⟩
  have hn3 := hin.1; have hn64 := hin.2
  obtain ⟨b, off, rfl⟩ := hp.some (by omega)
  have hr := ori_range f g n
  clear hp
  go_enter Tryd.func45, Tryd.ntmps45
  go_wp2_with fail
  have B : Below w.heap.size w (w.alloc (.cells #[.int .i64 x, .int .i64 y] 28)) := (HB0.out.alloc HB0.out.size _)
  have C : Below w.heap.size w (w.alloc (.cells #[.int .i64 x, .int .i64 y] 28)) := ((Below.refl w.heap.size w).alloc (Nat.le_refl _) _)
  have X0 : Bx (w.alloc (.cells #[.int .i64 x, .int .i64 y] 28)) (w.heap.size) #[.int .i64 x, .int .i64 y] 28 := by simpa using (Bx.new w #[.int .i64 x, .int .i64 y] 28)
  have FX_1 := Lib.hid (HP.out.below C (Nat.le_refl _))
  have HB1 := Lib.hid B
  have FP_1 := Lib.hid X0
  clear B C X0 HB0 HP
  generalize (w.alloc (.cells #[.int .i64 x, .int .i64 y] 28)) = w1 at *
  skip
  refine (ref14_Is _ n c hm _).mono ?_
  rintro e w2 ⟨rfl, B⟩
  have HB2 := Lib.hid (HB1.out.trans (B.mono HB1.out.size))
  have FX_2 := Lib.hid (FX_1.out.below B (Nat.le_refl _))
  have FP_2 := Lib.hid (FP_1.out.below B (Nat.le_refl _))
  clear B  HB1 FX_1 FP_1
  rw [show decide (inP n) = true from by simpa using hin]
  go_wp2_with fail
  refine (ref14_Orientation _ n c f g _ FX_2.out).mono ?_
  rintro e w3 ⟨rfl, B⟩
  have HB3 := Lib.hid (HB2.out.trans (B.mono HB2.out.size))
  have FX_3 := Lib.hid (FX_2.out.below B (Nat.le_refl _))
  have FP_3 := Lib.hid (FP_2.out.below B (Nat.le_refl _))
  clear B  HB2 FX_2 FP_2
  have HX := FX_3; have HBX := HB3; have HPB := FP_3
  obtain ⟨s, hs_⟩ : ∃ s, s = ori f g n := ⟨_, rfl⟩
  rw [← hs_] at hr ⊢
  have hs := Lib.hid hs_; clear hs_
  go_wp2_with fail
  go_loopw [6, 7] (fun o i wr => ∃ k : Nat, k ≤ n ∧ i = .int .i64 (k : Int) ∧ o = .int .i64 (minS (sideP f g n x y) k) ∧ Below w3.heap.size w3 wr) (fun _ i _ => n - (intOf i).toNat)
  case atStart => exact ⟨0, Nat.zero_le _, rfl, rfl, Below.refl _ _⟩
  case round =>
    obtain ⟨k, hk, rfl, rfl, hb⟩ := hrel
    by_cases hlt : k < n
    · have hP := Lib.hid (HX.out.below hb (Nat.le_refl _))
      have c1 := (HPB.out.below hb (Nat.le_refl _)).cell 0 (v := .int .i64 x) rfl
      have c2 := (HPB.out.below hb (Nat.le_refl _)).cell 1 (v := .int .i64 y) rfl
      have hb' := Lib.hid hb; clear hb
      have hms := Lib.hid (meas_ hlt)
      have hpos := Lib.hid (show (.int .i64 ((k : Int) + 1) : Value) = .int .i64 ((k + 1 : Nat) : Int) from by simp)
      have hsd := sideP_range f g n x y k
      have hpr : wrap64 (s * sg (edg f g n k x y)) = sideP f g n x y k := by rw [hs.out, show ori f g n * sg (edg f g n k x y) = sideP f g n x y k from rfl, ← IntWalk.i64_left, IntKind.wrap_i64]; omega
      have hpr2 : IntKind.i64.wrap (s * sg (edg f g n k x y)) = sideP f g n x y k := by rw [hs.out, show ori f g n * sg (edg f g n k x y) = sideP f g n x y k from rfl, IntKind.wrap_i64]; omega
      have hmin := Lib.hid (show minS (sideP f g n x y) (k + 1) = min (minS (sideP f g n x y) k) (sideP f g n x y k) from rfl)
      generalize sideP f g n x y k = sd at *
      generalize hM : minS (sideP f g n x y) k = m0 at *
      clear hM
      go_wp2_with fail
      refine (ref14_side b off n c f g k x y hin hlt hx hy _ hP.out).mono ?_
      rintro e w9 ⟨rfl, B⟩
      have HB9 := Lib.hid (hb'.out.trans (B.mono hb'.out.size)); clear B c1 c2
      generalize sg (edg f g n k x y) = t at *
      go_wp2_with fail
      go_roundw
      case rel => exact ⟨k + 1, hlt, hpos.out, by rw [hmin.out, show min m0 sd = if sd < m0 then sd else m0 from by rw [Int.min_def]; split <;> split <;> omega], HB9.out⟩
      case measure => exact hms.out
    · have hkn : k = n := by omega
      have he := Lib.hid (locP_in (f := f) (g := g) (x := x) (y := y) hin)
      have hb' := Lib.hid hb; clear hb
      go_wp2_with fail
      go_ret
      exact ⟨by rw [he.out, ← hkn]; rfl, HBX.out.trans (hb'.out.mono HBX.out.size)⟩

end Go.Proofs.YtoikcgmdlccdbaaDoor
