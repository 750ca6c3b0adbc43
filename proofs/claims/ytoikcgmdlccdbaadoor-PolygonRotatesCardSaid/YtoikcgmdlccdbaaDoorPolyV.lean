/- The contract of polygon.Valid, without a tape. -/
import Derived.Test.YtoikcgmdlccdbaaDoorPolyL
import Derived.Test.YtoikcgmdlccdbaaDoorPolyR
namespace Go.Proofs.YtoikcgmdlccdbaaDoor
set_option linter.unusedVariables false
set_option linter.unusedSimpArgs false
open Go.RowKit Wd Go.Shelf
attribute [local go_sem] Oper.semAt_some

theorem weq {x y : Int} (h : x = -1 ∨ x = 0 ∨ x = 1) (k : y = -1 ∨ y = 0 ∨ y = 1) : decide (IntKind.u64.wrap x = IntKind.u64.wrap y) = decide (x = y) := by
  rcases h with rfl | rfl | rfl <;> rcases k with rfl | rfl | rfl <;> rfl
/-- validity, the edges pre having come -/
def valSt (f g : Nat → Int) {n : Nat} (pre : List (Fin n)) : Bool := pre.foldl (fun (p : Bool) (i : Fin n) => p && allB (okAt f g n (ori f g n) (i : Nat)) n) (!decide (ori f g n = 0))
theorem valSt_snoc (f g : Nat → Int) {n : Nat} (pre : List (Fin n)) (i : Fin n) : valSt f g (pre ++ [i]) = (valSt f g pre && allB (okAt f g n (ori f g n) (i : Nat)) n) := by
  unfold valSt; rw [List.foldl_append]; rfl
theorem valSt_fup (f g : Nat → Int) {n : Nat} : ∀ k, k ≤ n → valSt f g (fup n k) = (!decide (ori f g n = 0) && allB (fun i => allB (okAt f g n (ori f g n) i) n) k)
  | 0, h => by show (!decide (ori f g n = 0)) = _; rw [allB, Bool.and_true]
  | k + 1, h => by rw [fup_succ (by omega), valSt_snoc, valSt_fup f g k (by omega), allB, Bool.and_assoc]
theorem valSt_end (f g : Nat → Int) (n : Nat) : valSt f g (eds n) = validP f g n := by
  unfold eds
  by_cases h : inP n
  · rw [if_pos h, valSt_fup f g n (Nat.le_refl _)]; unfold validP; simp [h]
  · rw [if_neg h, validP_out h]; show (!decide (ori f g n = 0)) = _; rw [ori_out h]; rfl
theorem isIP3 {w : World} {A : Option Addr} {n c : Nat} {f g : Nat → Int} (h : Pts w A n c f g) {q : Nat} (hq : q < n) : ∃ b off, A = some ⟨b, off, none⟩ ∧ Pt1 w b (off + q * 2) (f q) (g q) := by
  obtain ⟨b, off, e, hlt, hc⟩ := h.at_ (by omega)
  exact ⟨b, off, e, hlt, (hc q hq).1, (hc q hq).2⟩
set_option maxRecDepth 100000 in
set_option maxHeartbeats 8000000 in
theorem polygon_Valid (A : Option Addr) (n c : Nat) (f g : Nat → Int) (w : World) (hT : TabM w) (hp : Pts w A n c f g) :
    Calls Tryd.prog 40 #[.pointer none, .slice A n c] w fun e w' => e = .returned (.int .u64 (msk (validP f g n))) ∧ Below w.heap.size w w' := by
  have hm := Nat.le_trans hp.cap hp.max
  have FT := Lib.hid hT; have FX := Lib.hid hp; clear hT hp
  have HB0 := Lib.hid (Below.refl w.heap.size w)
  have HR := Lib.hid (ori_range f g n)
  have HX1 := Lib.hid (not_msk (decide (ori f g n = 0)))
  refine (callsIn_wide (n := 8)).1 ?_
  refine callsIn_of_wp_marks Tryd.func40 rfl trivial ?_ rfl
  simp only [Tryd.ntmps40, List.size_toArray, List.length_cons, List.length_nil, Nat.reduceAdd, Nat.reduceSub, Array.replicate_succ, Array.replicate_zero, List.push_toArray, List.append_toArray, List.nil_append, List.cons_append]
  gi_wp2_with fail
  have B : Below w.heap.size w ((w.alloc (.cells #[.pointer none] 47)).alloc (.cells #[.slice A n c] 35)) := ((HB0.out.alloc HB0.out.size _).alloc (HB0.out.alloc HB0.out.size _).size _)
  have C : Below w.heap.size w ((w.alloc (.cells #[.pointer none] 47)).alloc (.cells #[.slice A n c] 35)) := (((Below.refl w.heap.size w).alloc (Nat.le_refl _) _).alloc (by simp; try omega) _)
  have X0 : Bx ((w.alloc (.cells #[.pointer none] 47)).alloc (.cells #[.slice A n c] 35)) (w.heap.size) #[.pointer none] 47 := by simpa using ((Bx.new w #[.pointer none] 47).alloc _)
  have X1 : Bx ((w.alloc (.cells #[.pointer none] 47)).alloc (.cells #[.slice A n c] 35)) (w.heap.size + 1) #[.slice A n c] 35 := by simpa using (Bx.new (w.alloc (.cells #[.pointer none] 47)) #[.slice A n c] 35)
  have FT_1 := Lib.hid (FT.out.below C (Nat.le_refl _))
  have FX_1 := Lib.hid (FX.out.below C (Nat.le_refl _))
  have HB1 := Lib.hid B
  have FN_1 := Lib.hid X0
  have FB_1 := Lib.hid X1
  clear B C X0 X1 HB0 FT FX
  generalize ((w.alloc (.cells #[.pointer none] 47)).alloc (.cells #[.slice A n c] 35)) = w1 at *
  skip
  try refine ⟨trivial, ?_⟩
  refine CallsIn.mono (n := _) (callsIn_wide.2 (polygon_Orientation _ n c f g _ FT_1.out FX_1.out)) ?_
  rintro e w2 ⟨rfl, B⟩
  have HB2 := Lib.hid (HB1.out.trans (B.mono HB1.out.size))
  have FT_2 := Lib.hid (FT_1.out.below B (Nat.le_refl _))
  have FX_2 := Lib.hid (FX_1.out.below B (Nat.le_refl _))
  have FN_2 := Lib.hid (FN_1.out.below B (Nat.le_refl _))
  have FB_2 := Lib.hid (FB_1.out.below B (Nat.le_refl _))
  clear B  HB1 FT_1 FX_1 FN_1 FB_1
  gi_wp2_with fail
  have B : Below w.heap.size w (w2.alloc (.cells #[.int .i64 (ori f g n)] 2)) := (HB2.out.alloc HB2.out.size _)
  have C : Below w2.heap.size w2 (w2.alloc (.cells #[.int .i64 (ori f g n)] 2)) := ((Below.refl w2.heap.size w2).alloc (Nat.le_refl _) _)
  have X0 : Bx (w2.alloc (.cells #[.int .i64 (ori f g n)] 2)) (w2.heap.size) #[.int .i64 (ori f g n)] 2 := by simpa using (Bx.new w2 #[.int .i64 (ori f g n)] 2)
  have FT_3 := Lib.hid (FT_2.out.below C (Nat.le_refl _))
  have FX_3 := Lib.hid (FX_2.out.below C (Nat.le_refl _))
  have FN_3 := Lib.hid (FN_2.out.below C (Nat.le_refl _))
  have FB_3 := Lib.hid (FB_2.out.below C (Nat.le_refl _))
  have HB3 := Lib.hid B
  have FS_3 := Lib.hid X0
  clear B C X0 HB2 FT_2 FX_2 FN_2 FB_2
  generalize (w2.alloc (.cells #[.int .i64 (ori f g n)] 2)) = w3 at *
  skip
  try refine ⟨trivial, ?_⟩
  refine CallsIn.mono (n := _) (callsIn_wide.2 (mask_Zero _ (isW_wrap _) _)) ?_
  rintro e w4 ⟨rfl, rfl⟩
  rw [wu0 HR.out]
  have hx1 := HX1.out; have zB := (FB_3.out.alloc (.cells #[.int .u64 (msk (!decide (ori f g n = 0)))] 23)).cell 0 (v := .slice A n c) rfl
  gi_wp2_with fail
  try refine ⟨trivial, ?_⟩
  refine CallsIn.mono (n := _) (callsIn_wide.2 (polygon_edges A n c _)) ?_
  rintro e w5 ⟨rfl, rfl⟩
  clear zB hx1
  gi_wp2_with fail
  have HSZ := Lib.hid (show ((w3.alloc (.cells #[.int .u64 (msk (!decide (ori f g n = 0)))] 23)).alloc (.cells #[.slice A n c] 35)).heap.size = w3.heap.size + 1 + 1 from by simp)
  have C0 := Lib.hid (show Below w3.heap.size w3 ((w3.alloc (.cells #[.int .u64 (msk (!decide (ori f g n = 0)))] 23)).alloc (.cells #[.slice A n c] 35)) from below_al (below_al below_rf))
  have BM := Lib.hid (show Bx ((w3.alloc (.cells #[.int .u64 (msk (!decide (ori f g n = 0)))] 23)).alloc (.cells #[.slice A n c] 35)) w3.heap.size #[.int .u64 (msk (valSt f g ([] : List (Fin n))))] 23 from (Bx.new w3 _ _).alloc _)
  have BV := Lib.hid (show Bx ((w3.alloc (.cells #[.int .u64 (msk (!decide (ori f g n = 0)))] 23)).alloc (.cells #[.slice A n c] 35)) (w3.heap.size + 1) #[.slice A n c] 35 from bx_new (by simp))
  obtain ⟨W0, hW0⟩ : ∃ W0, ((w3.alloc (.cells #[.int .u64 (msk (!decide (ori f g n = 0)))] 23)).alloc (.cells #[.slice A n c] 35)) = W0 := ⟨_, rfl⟩
  rw [hW0] at HSZ C0 BM BV ⊢; clear hW0
  refine wpIn_rangeFunc_ownH rfl (by omega) (gf := 85) (lb := #[.pointer (some ⟨w3.heap.size + 1, 0, none⟩)]) rfl trivial (enters_of Tryd.func85 (by kernel_rfl) rfl)
    (edges_stops 7 (w3.heap.size + 1) (by omega) w3 A n c f g FX_3.out W0 C0.out BV.out)
    KpE.trans (fun W l ob o' hl h hc hw => ⟨belowK_b (w := W0) C0.out.size W l ob o' hl h hc hw, World.putObj_heap_other (by have := HSZ.out; omega)⟩) (Below.refl _ _) (fun _ => rfl)
    (fun (pre : List (Fin n)) W => Bx W w3.heap.size #[.int .u64 (msk (valSt f g pre))] 23 ∧ Bx W (w3.heap.size + 1) #[.slice A n c] 35 ∧ Below w3.heap.size w3 W) (fun _ _ _ => False)
    (fun s X Y row hs hg hr => ⟨bx_grown hs.1 hg hr, bx_grown hs.2.1 hg hr, ownFrom_below (β := Unit) (Nat.le_refl _) C0.out.size () X Y row hs.2.2 hg hr⟩)
    (fun _ _ _ _ _ hs _ _ => hs)
    ⟨BM.out, BV.out, C0.out⟩
    (fun (x1 : Fin n) a' W => ∃ Be, w3.heap.size + 1 + 1 ≤ Be ∧ Bx W Be #[.int .i64 ((x1 : Nat) : Int), .int .i64 (((x1 + 1) % n : Nat) : Int), .int .i64 (f x1), .int .i64 (g x1), .int .i64 (f ((x1 + 1) % n)), .int .i64 (g ((x1 + 1) % n))] 87 ∧ a' = { tmps := #[.pointer none, .slice A n c, .pointer (some ⟨w.heap.size, 0, none⟩), .pointer (some ⟨w.heap.size + 1, 0, none⟩), .int .u64 0, .pointer (some ⟨w2.heap.size, 0, none⟩), .pointer (some ⟨w3.heap.size, 0, none⟩), .pointer (some ⟨Be, 0, none⟩), undef, undef, .slice A n c, .int .i64 (ori f g n), .int .i64 (ori f g n), .int .u64 (IntKind.u64.wrap (ori f g n)), .int .u64 (msk (decide (ori f g n = 0))), .int .u64 (msk (!decide (ori f g n = 0))), .slice A n c, .func (.func 85) #[] #[.pointer (some ⟨w3.heap.size + 1, 0, none⟩)], edgeV f g n x1, undef, undef, undef, undef, undef, undef, undef, undef, undef, undef, undef, undef, undef, undef, undef, undef, undef, undef, undef, undef, undef, undef, undef, undef, undef, undef, undef, undef, undef, undef, undef, undef, undef, undef, undef, undef], defers := [] })
    (fun x1 a' _ X Y row hs hg hr => by obtain ⟨Be, h1, h2, h3⟩ := hs; exact ⟨Be, h1, bx_grown h2 hg hr, h3⟩) ?assign ?body ?done ?stop
  case stop => intro D cc pre W _ _ h _; exact h.elim
  case assign =>
    rintro l pre x1 W K ⟨i1, i2, i3⟩ hK
    have H1 := Lib.hid i1; have H2 := Lib.hid i2; have H3 := Lib.hid i3
    have HK := Lib.hid hK; clear hK i1 i2 i3
    have hed : edgeV f g n x1 = .agg #[.int .i64 ((x1 : Nat) : Int), .int .i64 (((x1 + 1) % n : Nat) : Int), .int .i64 (f x1), .int .i64 (g x1), .int .i64 (f ((x1 + 1) % n)), .int .i64 (g ((x1 + 1) % n))] := rfl
    gi_wp2_with fail
    exact HK.out _ _ ((KeepsOthers.alloc _ _).from _) ⟨(Below.refl _ _).alloc H3.out.size _, Below.heap_alloc _ _ _ H2.out.lt⟩ ⟨H1.out.alloc _, H2.out.alloc _, H3.out.alloc H3.out.size _⟩ ⟨W.heap.size, H2.out.lt, Bx.new _ _ _, rfl⟩
  case done =>
    rintro D xs W hD hxs ⟨i1, i2, i3⟩ hK
    have hxs' : xs = eds n := hxs
    subst hxs'
    have zO := i1.cell 0 (v := .int .u64 (msk (valSt f g (eds n)))) rfl
    have H4 := Lib.hid i3; have HK := Lib.hid hK; have HD := Lib.hid hD
    clear i1 i2 i3 hK hD hxs
    rw [valSt_end] at zO
    gi_wp2_with fail
    refine ⟨by simp, .inl ⟨_, _, rfl, run_takeDeferred HK.out, ?_⟩⟩
    have hB : Below w.heap.size w W := HB3.out.trans (H4.out.mono HB3.out.size)
    exact ⟨_, results_tmp rfl _ _ _, rfl, hB.trans (belowK_b (w := w) (Nat.le_refl _) _ D _ _ (by have := HD.out; have := HSZ.out; have := HB3.out.size; omega) HK.out rfl rfl)⟩
  case body =>
    rintro l pre ⟨k, hk1⟩ a' W hl - ⟨i1, i2, i3⟩ ⟨Be, hBe, bE, rfl⟩ hlen
    have hmx : n ≤ 9223372036854775807 := Nat.le_trans hm (by decide)
    have hk2 : (k + 1) % n < n := Nat.mod_lt _ (by omega)
    have hss := Lib.hid (valSt_snoc f g pre ⟨k, hk1⟩)
    have H5 : Hid (Bx W Be #[.int .i64 (k : Int), .int .i64 (((k + 1) % n : Nat) : Int), .int .i64 (f k), .int .i64 (g k), .int .i64 (f ((k + 1) % n)), .int .i64 (g ((k + 1) % n))] 87) := Lib.hid bE
    have H1 := Lib.hid i1; have H2 := Lib.hid i2; have H3 := Lib.hid i3; have HBE := Lib.hid hBe; clear i1 i2 i3 bE hBe hl hlen
    simp only [show ((⟨k, hk1⟩ : Fin n) : Nat) = k from rfl] at hss
    have hedg : ∀ q, edg f g n k (f q) (g q) = det (f k) (g k) (f ((k + 1) % n)) (g ((k + 1) % n)) (f q) (g q) := fun _ => rfl
    have hokk : ∀ o s, (o && allB (okAt f g n s k) k && okAt f g n s k k) = (o && allB (okAt f g n s k) k) := fun o s => by rw [show okAt f g n s k k = true from by simp [okAt, skip], Bool.and_true]
    have hsk : ∀ q, skip n k q = (decide (q = k) || decide (q = (k + 1) % n)) := fun _ => rfl
    generalize hK2 : (k + 1) % n = k2 at H5 hk2 hedg hsk
    generalize valSt f g pre = o0 at H1 hss
    have HEDG := Lib.hid hedg; have HSK := Lib.hid hsk; clear hedg hsk hokk
    have HKK2 := Lib.hid hK2; clear hK2
    have zB := (FB_3.out.below H3.out (Nat.le_refl _)).cell 0 (v := .slice A n c) rfl
    gi_wp2_with fail
    refine wpIn_scope_straight ?_
    refine wpIn_seq_k fun KL hKL => ?_
    refine wpIn_label ?_
    refine hKL _ _ ?_
    clear hKL KL
    gi_wp2_with fail
    clear zB
    gi_loopw [21] (fun j wr => ∃ q : Nat, q ≤ n ∧ j = .int .i64 (q : Int) ∧ Bx wr w3.heap.size #[.int .u64 (msk (o0 && allB (okAt f g n (ori f g n) k) q))] 23 ∧ Bx wr (w3.heap.size + 1) #[.slice A n c] 35 ∧ Bx wr Be #[.int .i64 (k : Int), .int .i64 (k2 : Int), .int .i64 (f k), .int .i64 (g k), .int .i64 (f k2), .int .i64 (g k2)] 87 ∧ Below w3.heap.size w3 wr ∧ KeepsFrom W0.heap.size W wr) (fun j _ => n - (intOf j).toNat)
    case atStart => exact ⟨0, Nat.zero_le _, rfl, by rw [allB, Bool.and_true]; exact H1.out, H2.out, H5.out, H3.out, KeepsFrom.refl _ _⟩
    case round =>
      obtain ⟨q, hq, rfl, j1, j2, j3, j4, j5⟩ := hrel
      have J1 := Lib.hid j1; have J2 := Lib.hid j2; have J3 := Lib.hid j3; have J4 := Lib.hid j4; have J5 := Lib.hid j5; clear j1 j2 j3 j4 j5
      by_cases hq1 : q < n
      · have hms := Lib.hid (meas_ hq1)
        have hpos := Lib.hid (show (.int .i64 ((q : Int) + 1) : Value) = .int .i64 ((q + 1 : Nat) : Int) from by simp)
        have hwq : wrap64 ((q : Int) + 1) = (q : Int) + 1 := by rw [← IntWalk.i64_left, IntKind.wrap_i64]; omega
        have hwq2 : IntKind.i64.wrap ((q : Int) + 1) = (q : Int) + 1 := by rw [IntKind.wrap_i64]; omega
        obtain ⟨b, off, rfl, hpt⟩ := isIP3 (FX_3.out.below J4.out (Nat.le_refl _)) hq1
        have c1 := hpt.x; have c2 := hpt.y
        have e1 := (J3.out.alloc (.cells #[.int .i64 (f q), .int .i64 (g q)] 28)).cell 0 (v := .int .i64 (k : Int)) rfl
        have e2 := (J3.out.alloc (.cells #[.int .i64 (f q), .int .i64 (g q)] 28)).cell 1 (v := .int .i64 (k2 : Int)) rfl
        have eN := (((FN_3.out.below J4.out (Nat.le_refl _)) : Bx _ _ _ _).alloc (.cells #[.int .i64 (f q), .int .i64 (g q)] 28)).cell 0 (v := .pointer none) rfl
        by_cases hskp : q = k ∨ q = k2
        · have hrq := Lib.hid (show (o0 && allB (okAt f g n (ori f g n) k) q) = (o0 && allB (okAt f g n (ori f g n) k) (q + 1)) from by
            rw [allB, show okAt f g n (ori f g n) k q = true from by unfold okAt; rw [HSK.out]; simp [hskp], Bool.and_true])
          rcases (by omega : q = k ∨ (q ≠ k ∧ q = k2)) with hqk | ⟨hqk, hqk2⟩
          · have hb1 : ((q : Int) == (k : Int)) = true := by simp; omega
            clear hskp hqk
            gi_wp2_with fail
            go_roundw
            case rel => exact ⟨q + 1, hq1, hpos.out, by rw [← hrq.out]; exact J1.out.alloc _, J2.out.alloc _, J3.out.alloc _, J4.out.alloc J4.out.size _, J5.out.trans ((KeepsOthers.alloc _ _).from _)⟩
            case measure => exact hms.out
          · have hb1 : ((q : Int) == (k : Int)) = false := by simp; omega
            have hb3 : ((q : Int) == (k2 : Int)) = true := by simp; omega
            clear hskp hqk hqk2
            gi_wp2_with fail
            go_roundw
            case rel => exact ⟨q + 1, hq1, hpos.out, by rw [← hrq.out]; exact J1.out.alloc _, J2.out.alloc _, J3.out.alloc _, J4.out.alloc J4.out.size _, J5.out.trans ((KeepsOthers.alloc _ _).from _)⟩
            case measure => exact hms.out
        · have hqk : ¬ (q = k) := fun h => hskp (.inl h)
          have hqk2 : ¬ (q = k2) := fun h => hskp (.inr h)
          clear hskp
          have hb1 : ((q : Int) == (k : Int)) = false := by simp; omega
          have hb3 : ((q : Int) == (k2 : Int)) = false := by simp; omega
          gi_wp2_with fail
          clear e1 e2 eN c1 c2 hpt hb1 hb3
          have hvq := Lib.hid (show (o0 && allB (okAt f g n (ori f g n) k) q && decide (sg (det (f k) (g k) (f k2) (g k2) (f q) (g q)) = ori f g n)) = (o0 && allB (okAt f g n (ori f g n) k) (q + 1)) from by
            rw [allB, show okAt f g n (ori f g n) k q = decide (sg (det (f k) (g k) (f k2) (g k2) (f q) (g q)) = ori f g n) from by unfold okAt; rw [HSK.out, HEDG.out]; simp [hqk, hqk2], Bool.and_assoc])
          have HP3 := Lib.hid (isIP FX_3.out hk1 hk2 hq1)
          have HEQ := Lib.hid (weq (sg_range (det (f k) (g k) (f k2) (g k2) (f q) (g q))) HR.out)
          have M1 := Lib.hid (J1.out.alloc (.cells #[.int .i64 (f q), .int .i64 (g q)] 28)); have M2 := Lib.hid (J2.out.alloc (.cells #[.int .i64 (f q), .int .i64 (g q)] 28)); have M3 := Lib.hid (J3.out.alloc (.cells #[.int .i64 (f q), .int .i64 (g q)] 28)); have M4 := Lib.hid (Bx.new wr #[.int .i64 (f q), .int .i64 (g q)] 28)
          have C9 := Lib.hid (J4.out.alloc J4.out.size (.cells #[.int .i64 (f q), .int .i64 (g q)] 28)); have K9 := Lib.hid (J5.out.trans ((KeepsOthers.alloc wr (.cells #[.int .i64 (f q), .int .i64 (g q)] 28)).from W0.heap.size))
          have HLT := Lib.hid J3.out.lt
          clear J1 J2 J3 J4 J5 hqk hqk2
          generalize wr.alloc (.cells #[.int .i64 (f q), .int .i64 (g q)] 28) = wq at *
          have HAN := Lib.hid (and_msk (o0 && allB (okAt f g n (ori f g n) k) q) (decide (sg (det (f k) (g k) (f k2) (g k2) (f q) (g q)) = ori f g n)))
          have FT_30 := Lib.hid (FT_3.out.below C9.out (Nat.le_refl _))
          have FX_30 := Lib.hid (FX_3.out.below C9.out (Nat.le_refl _))
          have FN_30 := Lib.hid (FN_3.out.below C9.out (Nat.le_refl _))
          have FB_30 := Lib.hid (FB_3.out.below C9.out (Nat.le_refl _))
          have FS_30 := Lib.hid (FS_3.out.below C9.out (Nat.le_refl _))
          have FM_30 := M1
          have FV_30 := M2
          have FE_30 := M3
          have FQ_30 := M4
          have HS30 := Lib.hid (Below.refl wq.heap.size wq)
          skip
          try refine ⟨trivial, ?_⟩
          refine CallsIn.mono (n := _) (CallsIn.inRound l (callsIn_wide.2 (tape_Note_nil _ _ _ _))) ?_
          rintro e w31 ⟨rfl, rfl⟩
          gi_wp2_with fail
          refine wpIn_region_any (by kernel_rfl) ?_
          change wpAnyIn _ _ _ _ _ _ _ _ _ (World.drew _)
          have RB31 := Lib.hid (below_drew0 wq)
          refine wpAnyIn_tail (WideF.round l) (fun a b => Below a.heap.size a b) (fun _ => below_rf) (fun _ _ _ h k => below_tr h k) [⟨0, 41, fun z_ _ => z_ = .int .u64 (msk (o0 && allB (okAt f g n (ori f g n) k) q))⟩, ⟨1, 42, fun z_ _ => z_ = .pointer (some ⟨Be, 2, none⟩)⟩, ⟨2, 43, fun z_ _ => z_ = .agg #[.int .i64 (f k), .int .i64 (g k)]⟩, ⟨3, 44, fun z_ _ => z_ = .pointer (some ⟨Be, 4, none⟩)⟩, ⟨4, 45, fun z_ _ => z_ = .agg #[.int .i64 (f k2), .int .i64 (g k2)]⟩, ⟨5, 46, fun z_ _ => z_ = .agg #[.int .i64 (f q), .int .i64 (g q)]⟩, ⟨6, 47, fun z_ _ => z_ = .int .i64 (sg (det (f k) (g k) (f k2) (g k2) (f q) (g q)))⟩, ⟨7, 48, fun z_ _ => z_ = .int .u64 (IntKind.u64.wrap (sg (det (f k) (g k) (f k2) (g k2) (f q) (g q))))⟩, ⟨8, 49, fun z_ _ => z_ = .int .i64 (ori f g n)⟩, ⟨9, 50, fun z_ _ => z_ = .int .u64 (IntKind.u64.wrap (ori f g n))⟩, ⟨10, 51, fun z_ _ => z_ = .int .u64 (msk (decide (sg (det (f k) (g k) (f k2) (g k2) (f q) (g q)) = ori f g n)))⟩, ⟨11, 52, fun z_ _ => z_ = .int .u64 (msk ((o0 && allB (okAt f g n (ori f g n) k) q) && decide (sg (det (f k) (g k) (f k2) (g k2) (f q) (g q)) = ori f g n)))⟩] 12 (by kernel_rfl) ?_ ?_ ?_
          · refine ⟨?_, ?_, ?_, ?_, ?_, ?_, ?_, ?_, ?_, ?_, ?_, ?_, trivial⟩
            all_goals (intro x w w' hb h; first | exact h | (obtain ⟨b_, h1, h2⟩ := h; exact ⟨b_, h1, h2.below hb (Nat.le_refl _)⟩))
          · refine ⟨?_, ?_, ?_, ?_, ?_, ?_, ?_, ?_, ?_, ?_, ?_, ?_, trivial⟩
            · intro a wz K hb ht hd hK
              have hbw := Lib.hid (below_tr RB31.out hb); clear hb
              have hx6 := (ht 6 rfl).trans rfl
              have es6 : a.tmps.getD 6 undef = _ := getD_of hx6; clear hx6
              clear ht hd
              have zc0 := (FM_30.out.below hbw.out (Nat.le_refl _)).cell 0 (v := .int .u64 (msk (o0 && allB (okAt f g n (ori f g n) k) q))) rfl
              have HK := Lib.hid hK; clear hK
              refine wpOpP_step (by simp only [List.getElem?_toArray, List.getElem?_cons_succ, List.getElem?_cons_zero]; rfl) (fun K' hK' => ?_)
              have HK' := Lib.hid hK'; clear hK'
              go_simp
              exact HK'.out _ _ (HK.out _ _ below_rf rfl)
            · intro a wz K hb ht hd hK
              have hbw := Lib.hid (below_tr RB31.out hb); clear hb
              have hx7 := (ht 7 rfl).trans rfl
              have es7 : a.tmps.getD 7 undef = _ := getD_of hx7; clear hx7
              clear ht hd
              have HK := Lib.hid hK; clear hK
              refine wpOpP_step (by simp only [List.getElem?_toArray, List.getElem?_cons_succ, List.getElem?_cons_zero]; rfl) (fun K' hK' => ?_)
              have HK' := Lib.hid hK'; clear hK'
              go_simp
              exact HK'.out _ _ (HK.out _ _ below_rf rfl)
            · intro a wz K hb ht hd hK
              have hbw := Lib.hid (below_tr RB31.out hb); clear hb
              obtain ⟨x42, hx42, hp42⟩ := hd 1 _ rfl (by kernel_rfl)
              obtain rfl := hp42
              have es42 : a.tmps.getD 42 undef = _ := getD_of hx42; clear hx42
              clear ht hd
              have zc0 := (FE_30.out.below hbw.out (Nat.le_refl _)).cell 2 (v := .int .i64 (f k)) rfl
              have zc1 := (FE_30.out.below hbw.out (Nat.le_refl _)).cell 3 (v := .int .i64 (g k)) rfl
              have HK := Lib.hid hK; clear hK
              refine wpOpP_step (by simp only [List.getElem?_toArray, List.getElem?_cons_succ, List.getElem?_cons_zero]; rfl) (fun K' hK' => ?_)
              have HK' := Lib.hid hK'; clear hK'
              go_simp
              exact HK'.out _ _ (HK.out _ _ below_rf rfl)
            · intro a wz K hb ht hd hK
              have hbw := Lib.hid (below_tr RB31.out hb); clear hb
              have hx7 := (ht 7 rfl).trans rfl
              have es7 : a.tmps.getD 7 undef = _ := getD_of hx7; clear hx7
              clear ht hd
              have HK := Lib.hid hK; clear hK
              refine wpOpP_step (by simp only [List.getElem?_toArray, List.getElem?_cons_succ, List.getElem?_cons_zero]; rfl) (fun K' hK' => ?_)
              have HK' := Lib.hid hK'; clear hK'
              go_simp
              exact HK'.out _ _ (HK.out _ _ below_rf rfl)
            · intro a wz K hb ht hd hK
              have hbw := Lib.hid (below_tr RB31.out hb); clear hb
              obtain ⟨x44, hx44, hp44⟩ := hd 3 _ rfl (by kernel_rfl)
              obtain rfl := hp44
              have es44 : a.tmps.getD 44 undef = _ := getD_of hx44; clear hx44
              clear ht hd
              have zc0 := (FE_30.out.below hbw.out (Nat.le_refl _)).cell 4 (v := .int .i64 (f k2)) rfl
              have zc1 := (FE_30.out.below hbw.out (Nat.le_refl _)).cell 5 (v := .int .i64 (g k2)) rfl
              have HK := Lib.hid hK; clear hK
              refine wpOpP_step (by simp only [List.getElem?_toArray, List.getElem?_cons_succ, List.getElem?_cons_zero]; rfl) (fun K' hK' => ?_)
              have HK' := Lib.hid hK'; clear hK'
              go_simp
              exact HK'.out _ _ (HK.out _ _ below_rf rfl)
            · intro a wz K hb ht hd hK
              have hbw := Lib.hid (below_tr RB31.out hb); clear hb
              have hx9 := (ht 9 rfl).trans rfl
              have es9 : a.tmps.getD 9 undef = _ := getD_of hx9; clear hx9
              clear ht hd
              have zc0 := (FQ_30.out.below hbw.out (Nat.le_refl _)).cell 0 (v := .int .i64 (f q)) rfl
              have zc1 := (FQ_30.out.below hbw.out (Nat.le_refl _)).cell 1 (v := .int .i64 (g q)) rfl
              have HK := Lib.hid hK; clear hK
              refine wpOpP_step (by simp only [List.getElem?_toArray, List.getElem?_cons_succ, List.getElem?_cons_zero]; rfl) (fun K' hK' => ?_)
              have HK' := Lib.hid hK'; clear hK'
              go_simp
              exact HK'.out _ _ (HK.out _ _ below_rf rfl)
            · intro a wz K hb ht hd hK
              have hbw := Lib.hid (below_tr RB31.out hb); clear hb
              obtain ⟨x43, hx43, hp43⟩ := hd 2 _ rfl (by kernel_rfl)
              obtain rfl := hp43
              have es43 : a.tmps.getD 43 undef = _ := getD_of hx43; clear hx43
              obtain ⟨x45, hx45, hp45⟩ := hd 4 _ rfl (by kernel_rfl)
              obtain rfl := hp45
              have es45 : a.tmps.getD 45 undef = _ := getD_of hx45; clear hx45
              obtain ⟨x46, hx46, hp46⟩ := hd 5 _ rfl (by kernel_rfl)
              obtain rfl := hp46
              have es46 : a.tmps.getD 46 undef = _ := getD_of hx46; clear hx46
              clear ht hd
              have HK := Lib.hid hK; clear hK
              refine wpOpP_step (by simp only [List.getElem?_toArray, List.getElem?_cons_succ, List.getElem?_cons_zero]; rfl) (fun K' hK' => ?_)
              have HK' := Lib.hid hK'; clear hK'
              go_simp
              refine (orient_Sign _ _ _ _ _ _ HP3.out _ (FT_30.out.below hbw.out (Nat.le_refl _))).mono ?_
              rintro e w1 ⟨rfl, B⟩
              go_wp2_with fail
              exact HK'.out _ _ (HK.out _ _ B rfl)
            · intro a wz K hb ht hd hK
              have hbw := Lib.hid (below_tr RB31.out hb); clear hb
              obtain ⟨x47, hx47, hp47⟩ := hd 6 _ rfl (by kernel_rfl)
              obtain rfl := hp47
              have es47 : a.tmps.getD 47 undef = _ := getD_of hx47; clear hx47
              clear ht hd
              have HK := Lib.hid hK; clear hK
              refine wpOpP_step (by simp only [List.getElem?_toArray, List.getElem?_cons_succ, List.getElem?_cons_zero]; rfl) (fun K' hK' => ?_)
              have HK' := Lib.hid hK'; clear hK'
              go_simp
              exact HK'.out _ _ (HK.out _ _ below_rf rfl)
            · intro a wz K hb ht hd hK
              have hbw := Lib.hid (below_tr RB31.out hb); clear hb
              have hx5 := (ht 5 rfl).trans rfl
              have es5 : a.tmps.getD 5 undef = _ := getD_of hx5; clear hx5
              clear ht hd
              have zc0 := (FS_30.out.below hbw.out (Nat.le_refl _)).cell 0 (v := .int .i64 (ori f g n)) rfl
              have HK := Lib.hid hK; clear hK
              refine wpOpP_step (by simp only [List.getElem?_toArray, List.getElem?_cons_succ, List.getElem?_cons_zero]; rfl) (fun K' hK' => ?_)
              have HK' := Lib.hid hK'; clear hK'
              go_simp
              exact HK'.out _ _ (HK.out _ _ below_rf rfl)
            · intro a wz K hb ht hd hK
              have hbw := Lib.hid (below_tr RB31.out hb); clear hb
              obtain ⟨x49, hx49, hp49⟩ := hd 8 _ rfl (by kernel_rfl)
              obtain rfl := hp49
              have es49 : a.tmps.getD 49 undef = _ := getD_of hx49; clear hx49
              clear ht hd
              have HK := Lib.hid hK; clear hK
              refine wpOpP_step (by simp only [List.getElem?_toArray, List.getElem?_cons_succ, List.getElem?_cons_zero]; rfl) (fun K' hK' => ?_)
              have HK' := Lib.hid hK'; clear hK'
              go_simp
              exact HK'.out _ _ (HK.out _ _ below_rf rfl)
            · intro a wz K hb ht hd hK
              have hbw := Lib.hid (below_tr RB31.out hb); clear hb
              obtain ⟨x48, hx48, hp48⟩ := hd 7 _ rfl (by kernel_rfl)
              obtain rfl := hp48
              have es48 : a.tmps.getD 48 undef = _ := getD_of hx48; clear hx48
              obtain ⟨x50, hx50, hp50⟩ := hd 9 _ rfl (by kernel_rfl)
              obtain rfl := hp50
              have es50 : a.tmps.getD 50 undef = _ := getD_of hx50; clear hx50
              clear ht hd
              have HK := Lib.hid hK; clear hK
              refine wpOpP_step (by simp only [List.getElem?_toArray, List.getElem?_cons_succ, List.getElem?_cons_zero]; rfl) (fun K' hK' => ?_)
              have HK' := Lib.hid hK'; clear hK'
              go_simp
              refine (mask_Equal _ _ (isW_wrap _) (isW_wrap _) _).mono ?_
              rintro e w1 ⟨rfl, rfl⟩
              rw [HEQ.out]
              go_wp2_with fail
              exact HK'.out _ _ (HK.out _ _ below_rf rfl)
            · intro a wz K hb ht hd hK
              have hbw := Lib.hid (below_tr RB31.out hb); clear hb
              obtain ⟨x41, hx41, hp41⟩ := hd 0 _ rfl (by kernel_rfl)
              obtain rfl := hp41
              have es41 : a.tmps.getD 41 undef = _ := getD_of hx41; clear hx41
              obtain ⟨x51, hx51, hp51⟩ := hd 10 _ rfl (by kernel_rfl)
              obtain rfl := hp51
              have es51 : a.tmps.getD 51 undef = _ := getD_of hx51; clear hx51
              clear ht hd
              have HK := Lib.hid hK; clear hK
              have e1 := HAN.out
              refine wpOpP_step (by simp only [List.getElem?_toArray, List.getElem?_cons_succ, List.getElem?_cons_zero]; rfl) (fun K' hK' => ?_)
              have HK' := Lib.hid hK'; clear hK'
              go_simp
              exact HK'.out _ _ (HK.out _ _ below_rf rfl)
          intro w32 X hb hv
          simp only [List.foldl_cons, List.foldl_nil, Act.put, List.setIfInBounds_toArray, List.set_cons_zero, List.set_cons_succ, List.toList_toArray, List.drop_succ_cons, List.drop_zero]
          obtain ⟨hv0, hv1, hv2, hv3, hv4, hv5, hv6, hv7, hv8, hv9, hv10, hv11, -⟩ := hv
          have hV0 : (fun z_ _ => z_ = .int .u64 (msk (o0 && allB (okAt f g n (ori f g n) k) q))) (X 41) w32 := hv0; clear hv0; have hv0 := hV0; clear hV0; generalize X 41 = X41 at *
          have hV1 : (fun z_ _ => z_ = .pointer (some ⟨Be, 2, none⟩)) (X 42) w32 := hv1; clear hv1; have hv1 := hV1; clear hV1; generalize X 42 = X42 at *
          have hV2 : (fun z_ _ => z_ = .agg #[.int .i64 (f k), .int .i64 (g k)]) (X 43) w32 := hv2; clear hv2; have hv2 := hV2; clear hV2; generalize X 43 = X43 at *
          have hV3 : (fun z_ _ => z_ = .pointer (some ⟨Be, 4, none⟩)) (X 44) w32 := hv3; clear hv3; have hv3 := hV3; clear hV3; generalize X 44 = X44 at *
          have hV4 : (fun z_ _ => z_ = .agg #[.int .i64 (f k2), .int .i64 (g k2)]) (X 45) w32 := hv4; clear hv4; have hv4 := hV4; clear hV4; generalize X 45 = X45 at *
          have hV5 : (fun z_ _ => z_ = .agg #[.int .i64 (f q), .int .i64 (g q)]) (X 46) w32 := hv5; clear hv5; have hv5 := hV5; clear hV5; generalize X 46 = X46 at *
          have hV6 : (fun z_ _ => z_ = .int .i64 (sg (det (f k) (g k) (f k2) (g k2) (f q) (g q)))) (X 47) w32 := hv6; clear hv6; have hv6 := hV6; clear hV6; generalize X 47 = X47 at *
          have hV7 : (fun z_ _ => z_ = .int .u64 (IntKind.u64.wrap (sg (det (f k) (g k) (f k2) (g k2) (f q) (g q))))) (X 48) w32 := hv7; clear hv7; have hv7 := hV7; clear hV7; generalize X 48 = X48 at *
          have hV8 : (fun z_ _ => z_ = .int .i64 (ori f g n)) (X 49) w32 := hv8; clear hv8; have hv8 := hV8; clear hV8; generalize X 49 = X49 at *
          have hV9 : (fun z_ _ => z_ = .int .u64 (IntKind.u64.wrap (ori f g n))) (X 50) w32 := hv9; clear hv9; have hv9 := hV9; clear hV9; generalize X 50 = X50 at *
          have hV10 : (fun z_ _ => z_ = .int .u64 (msk (decide (sg (det (f k) (g k) (f k2) (g k2) (f q) (g q)) = ori f g n)))) (X 51) w32 := hv10; clear hv10; have hv10 := hV10; clear hV10; generalize X 51 = X51 at *
          have hV11 : (fun z_ _ => z_ = .int .u64 (msk ((o0 && allB (okAt f g n (ori f g n) k) q) && decide (sg (det (f k) (g k) (f k2) (g k2) (f q) (g q)) = ori f g n)))) (X 52) w32 := hv11; clear hv11; have hv11 := hV11; clear hV11; generalize X 52 = X52 at *
          obtain rfl := hv0
          obtain rfl := hv1
          obtain rfl := hv2
          obtain rfl := hv3
          obtain rfl := hv4
          obtain rfl := hv5
          obtain rfl := hv6
          obtain rfl := hv7
          obtain rfl := hv8
          obtain rfl := hv9
          obtain rfl := hv10
          obtain rfl := hv11
          have RC := Lib.hid (below_tr RB31.out hb); clear hb
          have FT_32 := Lib.hid (FT_30.out.below RC.out (Nat.le_refl _))
          have FX_32 := Lib.hid (FX_30.out.below RC.out (Nat.le_refl _))
          have FN_32 := Lib.hid (FN_30.out.below RC.out (Nat.le_refl _))
          have FB_32 := Lib.hid (FB_30.out.below RC.out (Nat.le_refl _))
          have FS_32 := Lib.hid (FS_30.out.below RC.out (Nat.le_refl _))
          have FM_32 := Lib.hid (FM_30.out.below RC.out (Nat.le_refl _))
          have FV_32 := Lib.hid (FV_30.out.below RC.out (Nat.le_refl _))
          have FE_32 := Lib.hid (FE_30.out.below RC.out (Nat.le_refl _))
          have FQ_32 := Lib.hid (FQ_30.out.below RC.out (Nat.le_refl _))
          have HB32 := Lib.hid (HS30.out.trans (RC.out.mono HS30.out.size))
          clear HS30 FT_30 FX_30 FN_30 FB_30 FS_30 FM_30 FV_30 FE_30 FQ_30 RB31
          have C33 := Lib.hid (C9.out.trans (HB32.out.mono C9.out.size)); have K33 := Lib.hid (K9.out.trans ((keeps_below HB32.out).from _))
          clear C9 K9
          have BM33 := FM_32
          clear M1
          have BV33 := FV_32
          clear M2
          have BE33 := FE_32
          clear M3
          have BQ33 := FQ_32
          clear M4
          clear HB32 FT_32 FX_32 FN_32 FB_32 FS_32 FM_32 FV_32 FE_32 FQ_32
          have zO := BM33.out.cell 0 (v := .int .u64 (msk (o0 && allB (okAt f g n (ori f g n) k) q))) rfl; have zF := BM33.out.free 0; have zL := BM33.out.lt
          gi_wp2_with fail
          clear zO zF zL
          have C34 := Lib.hid (show Below w3.heap.size w3 (w32.setCell ⟨w3.heap.size, 0, none⟩ (.int .u64 (msk ((o0 && allB (okAt f g n (ori f g n) k) q) && decide (sg (det (f k) (g k) (f k2) (g k2) (f q) (g q)) = ori f g n))))) from C33.out.setCell (p := ⟨w3.heap.size, 0, none⟩) (Nat.le_refl _) _); have K34 := Lib.hid (show KeepsFrom _ _ (w32.setCell ⟨w3.heap.size, 0, none⟩ (.int .u64 (msk ((o0 && allB (okAt f g n (ori f g n) k) q) && decide (sg (det (f k) (g k) (f k2) (g k2) (f q) (g q)) = ori f g n))))) from K33.out.trans ((KeepsOthers.setCell _ _ _).from _))
          clear C33 K33
          have BM34 := Lib.hid (show Bx (w32.setCell ⟨w3.heap.size, 0, none⟩ (.int .u64 (msk ((o0 && allB (okAt f g n (ori f g n) k) q) && decide (sg (det (f k) (g k) (f k2) (g k2) (f q) (g q)) = ori f g n))))) (w3.heap.size) #[.int .u64 (msk ((o0 && allB (okAt f g n (ori f g n) k) q) && decide (sg (det (f k) (g k) (f k2) (g k2) (f q) (g q)) = ori f g n)))] 23 from BM33.out.set 0 _)
          clear BM33
          have BV34 := Lib.hid (show Bx (w32.setCell ⟨w3.heap.size, 0, none⟩ (.int .u64 (msk ((o0 && allB (okAt f g n (ori f g n) k) q) && decide (sg (det (f k) (g k) (f k2) (g k2) (f q) (g q)) = ori f g n))))) (w3.heap.size + 1) #[.slice (some ⟨b, off, none⟩) n c] 35 from BV33.out.other _ (show w3.heap.size + 1 ≠ w3.heap.size from by have h1 := HSZ.out; have h2 := HBE.out; have h3 := HLT.out; omega))
          clear BV33
          have BE34 := Lib.hid (show Bx (w32.setCell ⟨w3.heap.size, 0, none⟩ (.int .u64 (msk ((o0 && allB (okAt f g n (ori f g n) k) q) && decide (sg (det (f k) (g k) (f k2) (g k2) (f q) (g q)) = ori f g n))))) (Be) #[.int .i64 (k : Int), .int .i64 (k2 : Int), .int .i64 (f k), .int .i64 (g k), .int .i64 (f k2), .int .i64 (g k2)] 87 from BE33.out.other _ (show Be ≠ w3.heap.size from by have h1 := HSZ.out; have h2 := HBE.out; have h3 := HLT.out; omega))
          clear BE33
          have BQ34 := Lib.hid (show Bx (w32.setCell ⟨w3.heap.size, 0, none⟩ (.int .u64 (msk ((o0 && allB (okAt f g n (ori f g n) k) q) && decide (sg (det (f k) (g k) (f k2) (g k2) (f q) (g q)) = ori f g n))))) (wr.heap.size) #[.int .i64 (f q), .int .i64 (g q)] 28 from BQ33.out.other _ (show wr.heap.size ≠ w3.heap.size from by have h1 := HSZ.out; have h2 := HBE.out; have h3 := HLT.out; omega))
          clear BQ33
          generalize (w32.setCell ⟨w3.heap.size, 0, none⟩ (.int .u64 (msk ((o0 && allB (okAt f g n (ori f g n) k) q) && decide (sg (det (f k) (g k) (f k2) (g k2) (f q) (g q)) = ori f g n))))) = w34 at *
          go_roundw
          case rel => exact ⟨q + 1, hq1, hpos.out, by rw [← hvq.out]; exact BM34.out, BV34.out, BE34.out, C34.out, K34.out⟩
          case measure => exact hms.out
      · have hqn : q = n := by omega
        rw [hqn] at J1
        gi_wp2_with fail
        refine ⟨J5.out, ⟨below_diff H3.out J4.out J5.out.size, (show _ = _ from J2.out).trans (show _ = _ from H2.out).symm⟩, ?_⟩
        dsimp only; rw [hss.out]
        exact ⟨J1.out, J2.out, J4.out⟩
end Go.Proofs.YtoikcgmdlccdbaaDoor
