/- The contract of polygon.Valid, without a tape. The methods of the kinds of regions, through the interface: how many points, valid, where a point lies. Validity of regions, and membership in a fence. Membership in a fence. -/
import Derived.Test.YtjdiilkljgljkaaGreatDoorMg
import Derived.Test.YtjdiilkljgljkaaGreatDoorMe
import Derived.Test.YtjdiilkljgljkaaGreatDoorMd
import Derived.Test.YtjdiilkljgljkaaGreatDoorMf
namespace Go.Proofs.YtjdiilkljgljkaaGreatDoor
set_option linter.unusedVariables false
set_option linter.unusedSimpArgs false
open Go.RowKit Wd Go.Shelf
attribute [local go_sem] Oper.semAt_some

theorem weq {x y : Int} (h : x = -1 ∨ x = 0 ∨ x = 1) (k : y = -1 ∨ y = 0 ∨ y = 1) : decide (IntKind.u64.wrap x = IntKind.u64.wrap y) = decide (x = y) := by
  rcases h with rfl | rfl | rfl <;> rcases k with rfl | rfl | rfl <;> rfl
/-- validity, the edges pre having come -/
def valSt (f g : Nat → Int) {n : Nat} (pre : List (Fin n)) : Bool := pre.foldl (fun (p : Bool) (i : Fin n) => p && allB (okAt f g n (ori f g n) (i : Nat)) n) (!decide (ori f g n = 0))
theorem valSt_snoc (f g : Nat → Int) {n : Nat} (pre : List (Fin n)) (i : Fin n) : valSt f g (pre ++ [i]) = (valSt f g pre && allB (okAt f g n (ori f g n) (i : Nat)) n) := by
  unfold valSt; rw [List.foldl_append]; rfl
theorem valSt_fup (f g : Nat → Int) {n : Nat} : ∀ k, k ≤ n → valSt f g (fup n k) = (!decide (ori f g n = 0) && allB (fun i => allB (okAt f g n (ori f g n) i) n) k)
  | 0, h => by show (!decide (ori f g n = 0)) = _; rw [allB, Bool.and_true]
  | k + 1, h => by rw [fup_succ (by omega), valSt_snoc, valSt_fup f g k (by omega), allB, Bool.and_assoc]
theorem valSt_end (f g : Nat → Int) (n : Nat) : valSt f g (eds n) = validP f g n := by
  unfold eds
  by_cases h : inP n
  · rw [if_pos h, valSt_fup f g n (Nat.le_refl _)]; unfold validP; simp [h]
  · rw [if_neg h, validP_out h]; show (!decide (ori f g n = 0)) = _; rw [ori_out h]; rfl
theorem isIP3 {w : World} {A : Option Addr} {n c : Nat} {f g : Nat → Int} (h : Pts w A n c f g) {q : Nat} (hq : q < n) : ∃ b off, A = some ⟨b, off, none⟩ ∧ Pt1 w b (off + q * 2) (f q) (g q) := by
  obtain ⟨b, off, e, hlt, hc⟩ := h.at_ (by omega)
  exact ⟨b, off, e, hlt, (hc q hq).1, (hc q hq).2⟩
set_option maxRecDepth 100000 in
set_option maxHeartbeats 8000000 in
theorem polygon_Valid (A : Option Addr) (n c : Nat) (f g : Nat → Int) (w : World) (hT : TabM w) (hp : Pts w A n c f g) :
    Calls Tryz.prog 160 #[.pointer none, .slice A n c] w fun e w' => e = .returned (.int .u64 (msk (validP f g n))) ∧ Below w.heap.size w w' := by
  have hm := Nat.le_trans hp.cap hp.max
  have FT := Lib.hid hT; have FX := Lib.hid hp; clear hT hp
  have HB0 := Lib.hid (Below.refl w.heap.size w)
  have HR := Lib.hid (ori_range f g n)
  have HX1 := Lib.hid (not_msk (decide (ori f g n = 0)))
  refine (callsIn_wide (n := 8)).1 ?_
  refine callsIn_of_wp_marks Tryz.func160 rfl trivial ?_ rfl
  simp only [Tryz.ntmps160, List.size_toArray, List.length_cons, List.length_nil, Nat.reduceAdd, Nat.reduceSub, Array.replicate_succ, Array.replicate_zero, List.push_toArray, List.append_toArray, List.nil_append, List.cons_append]
  gi_wp2_with fail
  have B : Below w.heap.size w ((w.alloc (.cells #[.pointer none] 98)).alloc (.cells #[.slice A n c] 29)) := ((HB0.out.alloc HB0.out.size _).alloc (HB0.out.alloc HB0.out.size _).size _)
  have C : Below w.heap.size w ((w.alloc (.cells #[.pointer none] 98)).alloc (.cells #[.slice A n c] 29)) := (((Below.refl w.heap.size w).alloc (Nat.le_refl _) _).alloc (by simp; try omega) _)
  have X0 : Bx ((w.alloc (.cells #[.pointer none] 98)).alloc (.cells #[.slice A n c] 29)) (w.heap.size) #[.pointer none] 98 := by simpa using ((Bx.new w #[.pointer none] 98).alloc _)
  have X1 : Bx ((w.alloc (.cells #[.pointer none] 98)).alloc (.cells #[.slice A n c] 29)) (w.heap.size + 1) #[.slice A n c] 29 := by simpa using (Bx.new (w.alloc (.cells #[.pointer none] 98)) #[.slice A n c] 29)
  have FT_1 := Lib.hid (FT.out.below C (Nat.le_refl _))
  have FX_1 := Lib.hid (FX.out.below C (Nat.le_refl _))
  have HB1 := Lib.hid B
  have FN_1 := Lib.hid X0
  have FB_1 := Lib.hid X1
  clear B C X0 X1 HB0 FT FX
  generalize ((w.alloc (.cells #[.pointer none] 98)).alloc (.cells #[.slice A n c] 29)) = w1 at *
  skip
  try refine ⟨trivial, ?_⟩
  refine CallsIn.mono (n := _) (callsIn_wide.2 (polygon_Orientation _ n c f g _ FT_1.out FX_1.out)) ?_
  rintro e w2 ⟨rfl, B⟩
  have HB2 := Lib.hid (HB1.out.trans (B.mono HB1.out.size))
  have FT_2 := Lib.hid (FT_1.out.below B (Nat.le_refl _))
  have FX_2 := Lib.hid (FX_1.out.below B (Nat.le_refl _))
  have FN_2 := Lib.hid (FN_1.out.below B (Nat.le_refl _))
  have FB_2 := Lib.hid (FB_1.out.below B (Nat.le_refl _))
  clear B  HB1 FT_1 FX_1 FN_1 FB_1
  gi_wp2_with fail
  have B : Below w.heap.size w (w2.alloc (.cells #[.int .i64 (ori f g n)] 2)) := (HB2.out.alloc HB2.out.size _)
  have C : Below w2.heap.size w2 (w2.alloc (.cells #[.int .i64 (ori f g n)] 2)) := ((Below.refl w2.heap.size w2).alloc (Nat.le_refl _) _)
  have X0 : Bx (w2.alloc (.cells #[.int .i64 (ori f g n)] 2)) (w2.heap.size) #[.int .i64 (ori f g n)] 2 := by simpa using (Bx.new w2 #[.int .i64 (ori f g n)] 2)
  have FT_3 := Lib.hid (FT_2.out.below C (Nat.le_refl _))
  have FX_3 := Lib.hid (FX_2.out.below C (Nat.le_refl _))
  have FN_3 := Lib.hid (FN_2.out.below C (Nat.le_refl _))
  have FB_3 := Lib.hid (FB_2.out.below C (Nat.le_refl _))
  have HB3 := Lib.hid B
  have FS_3 := Lib.hid X0
  clear B C X0 HB2 FT_2 FX_2 FN_2 FB_2
  generalize (w2.alloc (.cells #[.int .i64 (ori f g n)] 2)) = w3 at *
  skip
  try refine ⟨trivial, ?_⟩
  refine CallsIn.mono (n := _) (callsIn_wide.2 (mask_Zero _ (isW_wrap _) _)) ?_
  rintro e w4 ⟨rfl, rfl⟩
  rw [wu0 HR.out]
  have hx1 := HX1.out; have zB := (FB_3.out.alloc (.cells #[.int .u64 (msk (!decide (ori f g n = 0)))] 61)).cell 0 (v := .slice A n c) rfl
  gi_wp2_with fail
  try refine ⟨trivial, ?_⟩
  refine CallsIn.mono (n := _) (callsIn_wide.2 (polygon_edges A n c _)) ?_
  rintro e w5 ⟨rfl, rfl⟩
  clear zB hx1
  gi_wp2_with fail
  have HSZ := Lib.hid (show ((w3.alloc (.cells #[.int .u64 (msk (!decide (ori f g n = 0)))] 61)).alloc (.cells #[.slice A n c] 29)).heap.size = w3.heap.size + 1 + 1 from by simp)
  have C0 := Lib.hid (show Below w3.heap.size w3 ((w3.alloc (.cells #[.int .u64 (msk (!decide (ori f g n = 0)))] 61)).alloc (.cells #[.slice A n c] 29)) from below_al (below_al below_rf))
  have BM := Lib.hid (show Bx ((w3.alloc (.cells #[.int .u64 (msk (!decide (ori f g n = 0)))] 61)).alloc (.cells #[.slice A n c] 29)) w3.heap.size #[.int .u64 (msk (valSt f g ([] : List (Fin n))))] 61 from (Bx.new w3 _ _).alloc _)
  have BV := Lib.hid (show Bx ((w3.alloc (.cells #[.int .u64 (msk (!decide (ori f g n = 0)))] 61)).alloc (.cells #[.slice A n c] 29)) (w3.heap.size + 1) #[.slice A n c] 29 from bx_new (by simp))
  obtain ⟨W0, hW0⟩ : ∃ W0, ((w3.alloc (.cells #[.int .u64 (msk (!decide (ori f g n = 0)))] 61)).alloc (.cells #[.slice A n c] 29)) = W0 := ⟨_, rfl⟩
  rw [hW0] at HSZ C0 BM BV ⊢; clear hW0
  refine wpIn_rangeFunc_ownH rfl (by omega) (gf := 175) (lb := #[.pointer (some ⟨w3.heap.size + 1, 0, none⟩)]) rfl trivial (enters_of Tryz.func175 (by kernel_rfl) rfl)
    (edges_stops 7 (w3.heap.size + 1) (by omega) w3 A n c f g FX_3.out W0 C0.out BV.out)
    KpE.trans (fun W l ob o' hl h hc hw => ⟨belowK_b (w := W0) C0.out.size W l ob o' hl h hc hw, World.putObj_heap_other (by have := HSZ.out; omega)⟩) (Below.refl _ _) (fun _ => rfl)
    (fun (pre : List (Fin n)) W => Bx W w3.heap.size #[.int .u64 (msk (valSt f g pre))] 61 ∧ Bx W (w3.heap.size + 1) #[.slice A n c] 29 ∧ Below w3.heap.size w3 W) (fun _ _ _ => False)
    (fun s X Y row hs hg hr => ⟨bx_grown hs.1 hg hr, bx_grown hs.2.1 hg hr, ownFrom_below (β := Unit) (Nat.le_refl _) C0.out.size () X Y row hs.2.2 hg hr⟩)
    (fun _ _ _ _ _ hs _ _ => hs)
    ⟨BM.out, BV.out, C0.out⟩
    (fun (x1 : Fin n) a' W => ∃ Be, w3.heap.size + 1 + 1 ≤ Be ∧ Bx W Be #[.int .i64 ((x1 : Nat) : Int), .int .i64 (((x1 + 1) % n : Nat) : Int), .int .i64 (f x1), .int .i64 (g x1), .int .i64 (f ((x1 + 1) % n)), .int .i64 (g ((x1 + 1) % n))] 245 ∧ a' = { tmps := #[.pointer none, .slice A n c, .pointer (some ⟨w.heap.size, 0, none⟩), .pointer (some ⟨w.heap.size + 1, 0, none⟩), .int .u64 0, .pointer (some ⟨w2.heap.size, 0, none⟩), .pointer (some ⟨w3.heap.size, 0, none⟩), .pointer (some ⟨Be, 0, none⟩), undef, undef, .slice A n c, .int .i64 (ori f g n), .int .i64 (ori f g n), .int .u64 (IntKind.u64.wrap (ori f g n)), .int .u64 (msk (decide (ori f g n = 0))), .int .u64 (msk (!decide (ori f g n = 0))), .slice A n c, .func (.func 175) #[] #[.pointer (some ⟨w3.heap.size + 1, 0, none⟩)], edgeV f g n x1, undef, undef, undef, undef, undef, undef, undef, undef, undef, undef, undef, undef, undef, undef, undef, undef, undef, undef, undef, undef, undef, undef, undef, undef, undef, undef, undef, undef, undef, undef, undef, undef, undef, undef, undef, undef], defers := [] })
    (fun x1 a' _ X Y row hs hg hr => by obtain ⟨Be, h1, h2, h3⟩ := hs; exact ⟨Be, h1, bx_grown h2 hg hr, h3⟩) ?assign ?body ?done ?stop
  case stop => intro D cc pre W _ _ h _; exact h.elim
  case assign =>
    rintro l pre x1 W K ⟨i1, i2, i3⟩ hK
    have H1 := Lib.hid i1; have H2 := Lib.hid i2; have H3 := Lib.hid i3
    have HK := Lib.hid hK; clear hK i1 i2 i3
    have hed : edgeV f g n x1 = .agg #[.int .i64 ((x1 : Nat) : Int), .int .i64 (((x1 + 1) % n : Nat) : Int), .int .i64 (f x1), .int .i64 (g x1), .int .i64 (f ((x1 + 1) % n)), .int .i64 (g ((x1 + 1) % n))] := rfl
    gi_wp2_with fail
    exact HK.out _ _ ((KeepsOthers.alloc _ _).from _) ⟨(Below.refl _ _).alloc H3.out.size _, Below.heap_alloc _ _ _ H2.out.lt⟩ ⟨H1.out.alloc _, H2.out.alloc _, H3.out.alloc H3.out.size _⟩ ⟨W.heap.size, H2.out.lt, Bx.new _ _ _, rfl⟩
  case done =>
    rintro D xs W hD hxs ⟨i1, i2, i3⟩ hK
    have hxs' : xs = eds n := hxs
    subst hxs'
    have zO := i1.cell 0 (v := .int .u64 (msk (valSt f g (eds n)))) rfl
    have H4 := Lib.hid i3; have HK := Lib.hid hK; have HD := Lib.hid hD
    clear i1 i2 i3 hK hD hxs
    rw [valSt_end] at zO
    gi_wp2_with fail
    refine ⟨by simp, .inl ⟨_, _, rfl, run_takeDeferred HK.out, ?_⟩⟩
    have hB : Below w.heap.size w W := HB3.out.trans (H4.out.mono HB3.out.size)
    exact ⟨_, results_tmp rfl _ _ _, rfl, hB.trans (belowK_b (w := w) (Nat.le_refl _) _ D _ _ (by have := HD.out; have := HSZ.out; have := HB3.out.size; omega) HK.out rfl rfl)⟩
  case body =>
    rintro l pre ⟨k, hk1⟩ a' W hl - ⟨i1, i2, i3⟩ ⟨Be, hBe, bE, rfl⟩ hlen
    have hmx : n ≤ 9223372036854775807 := Nat.le_trans hm (by decide)
    have hk2 : (k + 1) % n < n := Nat.mod_lt _ (by omega)
    have hss := Lib.hid (valSt_snoc f g pre ⟨k, hk1⟩)
    have H5 : Hid (Bx W Be #[.int .i64 (k : Int), .int .i64 (((k + 1) % n : Nat) : Int), .int .i64 (f k), .int .i64 (g k), .int .i64 (f ((k + 1) % n)), .int .i64 (g ((k + 1) % n))] 245) := Lib.hid bE
    have H1 := Lib.hid i1; have H2 := Lib.hid i2; have H3 := Lib.hid i3; have HBE := Lib.hid hBe; clear i1 i2 i3 bE hBe hl hlen
    simp only [show ((⟨k, hk1⟩ : Fin n) : Nat) = k from rfl] at hss
    have hedg : ∀ q, edg f g n k (f q) (g q) = det (f k) (g k) (f ((k + 1) % n)) (g ((k + 1) % n)) (f q) (g q) := fun _ => rfl
    have hokk : ∀ o s, (o && allB (okAt f g n s k) k && okAt f g n s k k) = (o && allB (okAt f g n s k) k) := fun o s => by rw [show okAt f g n s k k = true from by simp [okAt, skip], Bool.and_true]
    have hsk : ∀ q, skip n k q = (decide (q = k) || decide (q = (k + 1) % n)) := fun _ => rfl
    generalize hK2 : (k + 1) % n = k2 at H5 hk2 hedg hsk
    generalize valSt f g pre = o0 at H1 hss
    have HEDG := Lib.hid hedg; have HSK := Lib.hid hsk; clear hedg hsk hokk
    have HKK2 := Lib.hid hK2; clear hK2
    have zB := (FB_3.out.below H3.out (Nat.le_refl _)).cell 0 (v := .slice A n c) rfl
    gi_wp2_with fail
    refine wpIn_scope_straight ?_
    refine wpIn_seq_k fun KL hKL => ?_
    refine wpIn_label ?_
    refine hKL _ _ ?_
    clear hKL KL
    gi_wp2_with fail
    clear zB
    gi_loopw [21] (fun j wr => ∃ q : Nat, q ≤ n ∧ j = .int .i64 (q : Int) ∧ Bx wr w3.heap.size #[.int .u64 (msk (o0 && allB (okAt f g n (ori f g n) k) q))] 61 ∧ Bx wr (w3.heap.size + 1) #[.slice A n c] 29 ∧ Bx wr Be #[.int .i64 (k : Int), .int .i64 (k2 : Int), .int .i64 (f k), .int .i64 (g k), .int .i64 (f k2), .int .i64 (g k2)] 245 ∧ Below w3.heap.size w3 wr ∧ KeepsFrom W0.heap.size W wr) (fun j _ => n - (intOf j).toNat)
    case atStart => exact ⟨0, Nat.zero_le _, rfl, by rw [allB, Bool.and_true]; exact H1.out, H2.out, H5.out, H3.out, KeepsFrom.refl _ _⟩
    case round =>
      obtain ⟨q, hq, rfl, j1, j2, j3, j4, j5⟩ := hrel
      have J1 := Lib.hid j1; have J2 := Lib.hid j2; have J3 := Lib.hid j3; have J4 := Lib.hid j4; have J5 := Lib.hid j5; clear j1 j2 j3 j4 j5
      by_cases hq1 : q < n
      · have hms := Lib.hid (meas_ hq1)
        have hpos := Lib.hid (show (.int .i64 ((q : Int) + 1) : Value) = .int .i64 ((q + 1 : Nat) : Int) from by simp)
        have hwq : wrap64 ((q : Int) + 1) = (q : Int) + 1 := by rw [← IntWalk.i64_left, IntKind.wrap_i64]; omega
        have hwq2 : IntKind.i64.wrap ((q : Int) + 1) = (q : Int) + 1 := by rw [IntKind.wrap_i64]; omega
        obtain ⟨b, off, rfl, hpt⟩ := isIP3 (FX_3.out.below J4.out (Nat.le_refl _)) hq1
        have c1 := hpt.x; have c2 := hpt.y
        have e1 := (J3.out.alloc (.cells #[.int .i64 (f q), .int .i64 (g q)] 23)).cell 0 (v := .int .i64 (k : Int)) rfl
        have e2 := (J3.out.alloc (.cells #[.int .i64 (f q), .int .i64 (g q)] 23)).cell 1 (v := .int .i64 (k2 : Int)) rfl
        have eN := (((FN_3.out.below J4.out (Nat.le_refl _)) : Bx _ _ _ _).alloc (.cells #[.int .i64 (f q), .int .i64 (g q)] 23)).cell 0 (v := .pointer none) rfl
        by_cases hskp : q = k ∨ q = k2
        · have hrq := Lib.hid (show (o0 && allB (okAt f g n (ori f g n) k) q) = (o0 && allB (okAt f g n (ori f g n) k) (q + 1)) from by
            rw [allB, show okAt f g n (ori f g n) k q = true from by unfold okAt; rw [HSK.out]; simp [hskp], Bool.and_true])
          rcases (by omega : q = k ∨ (q ≠ k ∧ q = k2)) with hqk | ⟨hqk, hqk2⟩
          · have hb1 : ((q : Int) == (k : Int)) = true := by simp; omega
            clear hskp hqk
            gi_wp2_with fail
            go_roundw
            case rel => exact ⟨q + 1, hq1, hpos.out, by rw [← hrq.out]; exact J1.out.alloc _, J2.out.alloc _, J3.out.alloc _, J4.out.alloc J4.out.size _, J5.out.trans ((KeepsOthers.alloc _ _).from _)⟩
            case measure => exact hms.out
          · have hb1 : ((q : Int) == (k : Int)) = false := by simp; omega
            have hb3 : ((q : Int) == (k2 : Int)) = true := by simp; omega
            clear hskp hqk hqk2
            gi_wp2_with fail
            go_roundw
            case rel => exact ⟨q + 1, hq1, hpos.out, by rw [← hrq.out]; exact J1.out.alloc _, J2.out.alloc _, J3.out.alloc _, J4.out.alloc J4.out.size _, J5.out.trans ((KeepsOthers.alloc _ _).from _)⟩
            case measure => exact hms.out
        · have hqk : ¬ (q = k) := fun h => hskp (.inl h)
          have hqk2 : ¬ (q = k2) := fun h => hskp (.inr h)
          clear hskp
          have hb1 : ((q : Int) == (k : Int)) = false := by simp; omega
          have hb3 : ((q : Int) == (k2 : Int)) = false := by simp; omega
          gi_wp2_with fail
          clear e1 e2 eN c1 c2 hpt hb1 hb3
          have hvq := Lib.hid (show (o0 && allB (okAt f g n (ori f g n) k) q && decide (sg (det (f k) (g k) (f k2) (g k2) (f q) (g q)) = ori f g n)) = (o0 && allB (okAt f g n (ori f g n) k) (q + 1)) from by
            rw [allB, show okAt f g n (ori f g n) k q = decide (sg (det (f k) (g k) (f k2) (g k2) (f q) (g q)) = ori f g n) from by unfold okAt; rw [HSK.out, HEDG.out]; simp [hqk, hqk2], Bool.and_assoc])
          have HP3 := Lib.hid (isIP FX_3.out hk1 hk2 hq1)
          have HEQ := Lib.hid (weq (sg_range (det (f k) (g k) (f k2) (g k2) (f q) (g q))) HR.out)
          have M1 := Lib.hid (J1.out.alloc (.cells #[.int .i64 (f q), .int .i64 (g q)] 23)); have M2 := Lib.hid (J2.out.alloc (.cells #[.int .i64 (f q), .int .i64 (g q)] 23)); have M3 := Lib.hid (J3.out.alloc (.cells #[.int .i64 (f q), .int .i64 (g q)] 23)); have M4 := Lib.hid (Bx.new wr #[.int .i64 (f q), .int .i64 (g q)] 23)
          have C9 := Lib.hid (J4.out.alloc J4.out.size (.cells #[.int .i64 (f q), .int .i64 (g q)] 23)); have K9 := Lib.hid (J5.out.trans ((KeepsOthers.alloc wr (.cells #[.int .i64 (f q), .int .i64 (g q)] 23)).from W0.heap.size))
          have HLT := Lib.hid J3.out.lt
          clear J1 J2 J3 J4 J5 hqk hqk2
          generalize wr.alloc (.cells #[.int .i64 (f q), .int .i64 (g q)] 23) = wq at *
          have HAN := Lib.hid (and_msk (o0 && allB (okAt f g n (ori f g n) k) q) (decide (sg (det (f k) (g k) (f k2) (g k2) (f q) (g q)) = ori f g n)))
          have FT_30 := Lib.hid (FT_3.out.below C9.out (Nat.le_refl _))
          have FX_30 := Lib.hid (FX_3.out.below C9.out (Nat.le_refl _))
          have FN_30 := Lib.hid (FN_3.out.below C9.out (Nat.le_refl _))
          have FB_30 := Lib.hid (FB_3.out.below C9.out (Nat.le_refl _))
          have FS_30 := Lib.hid (FS_3.out.below C9.out (Nat.le_refl _))
          have FM_30 := M1
          have FV_30 := M2
          have FE_30 := M3
          have FQ_30 := M4
          have HS30 := Lib.hid (Below.refl wq.heap.size wq)
          skip
          try refine ⟨trivial, ?_⟩
          refine CallsIn.mono (n := _) (CallsIn.inRound l (callsIn_wide.2 (tape_Note_nil _ _ _ _))) ?_
          rintro e w31 ⟨rfl, rfl⟩
          gi_wp2_with fail
          refine wpIn_region_any (by kernel_rfl) ?_
          change wpAnyIn _ _ _ _ _ _ _ _ _ (World.drew _)
          have RB31 := Lib.hid (below_drew0 wq)
          refine wpAnyIn_tail (WideF.round l) (fun a b => Below a.heap.size a b) (fun _ => below_rf) (fun _ _ _ h k => below_tr h k) [⟨0, 41, fun z_ _ => z_ = .int .u64 (msk (o0 && allB (okAt f g n (ori f g n) k) q))⟩, ⟨1, 42, fun z_ _ => z_ = .pointer (some ⟨Be, 2, none⟩)⟩, ⟨2, 43, fun z_ _ => z_ = .agg #[.int .i64 (f k), .int .i64 (g k)]⟩, ⟨3, 44, fun z_ _ => z_ = .pointer (some ⟨Be, 4, none⟩)⟩, ⟨4, 45, fun z_ _ => z_ = .agg #[.int .i64 (f k2), .int .i64 (g k2)]⟩, ⟨5, 46, fun z_ _ => z_ = .agg #[.int .i64 (f q), .int .i64 (g q)]⟩, ⟨6, 47, fun z_ _ => z_ = .int .i64 (sg (det (f k) (g k) (f k2) (g k2) (f q) (g q)))⟩, ⟨7, 48, fun z_ _ => z_ = .int .u64 (IntKind.u64.wrap (sg (det (f k) (g k) (f k2) (g k2) (f q) (g q))))⟩, ⟨8, 49, fun z_ _ => z_ = .int .i64 (ori f g n)⟩, ⟨9, 50, fun z_ _ => z_ = .int .u64 (IntKind.u64.wrap (ori f g n))⟩, ⟨10, 51, fun z_ _ => z_ = .int .u64 (msk (decide (sg (det (f k) (g k) (f k2) (g k2) (f q) (g q)) = ori f g n)))⟩, ⟨11, 52, fun z_ _ => z_ = .int .u64 (msk ((o0 && allB (okAt f g n (ori f g n) k) q) && decide (sg (det (f k) (g k) (f k2) (g k2) (f q) (g q)) = ori f g n)))⟩] 12 (by kernel_rfl) ?_ ?_ ?_
          · refine ⟨?_, ?_, ?_, ?_, ?_, ?_, ?_, ?_, ?_, ?_, ?_, ?_, trivial⟩
            all_goals (intro x w w' hb h; first | exact h | (obtain ⟨b_, h1, h2⟩ := h; exact ⟨b_, h1, h2.below hb (Nat.le_refl _)⟩))
          · refine ⟨?_, ?_, ?_, ?_, ?_, ?_, ?_, ?_, ?_, ?_, ?_, ?_, trivial⟩
            · intro a wz K hb ht hd hK
              have hbw := Lib.hid (below_tr RB31.out hb); clear hb
              have hx6 := (ht 6 rfl).trans rfl
              have es6 : a.tmps.getD 6 undef = _ := getD_of hx6; clear hx6
              clear ht hd
              have zc0 := (FM_30.out.below hbw.out (Nat.le_refl _)).cell 0 (v := .int .u64 (msk (o0 && allB (okAt f g n (ori f g n) k) q))) rfl
              have HK := Lib.hid hK; clear hK
              refine wpOpP_step (by simp only [List.getElem?_toArray, List.getElem?_cons_succ, List.getElem?_cons_zero]; rfl) (fun K' hK' => ?_)
              have HK' := Lib.hid hK'; clear hK'
              go_simp
              exact HK'.out _ _ (HK.out _ _ below_rf rfl)
            · intro a wz K hb ht hd hK
              have hbw := Lib.hid (below_tr RB31.out hb); clear hb
              have hx7 := (ht 7 rfl).trans rfl
              have es7 : a.tmps.getD 7 undef = _ := getD_of hx7; clear hx7
              clear ht hd
              have HK := Lib.hid hK; clear hK
              refine wpOpP_step (by simp only [List.getElem?_toArray, List.getElem?_cons_succ, List.getElem?_cons_zero]; rfl) (fun K' hK' => ?_)
              have HK' := Lib.hid hK'; clear hK'
              go_simp
              exact HK'.out _ _ (HK.out _ _ below_rf rfl)
            · intro a wz K hb ht hd hK
              have hbw := Lib.hid (below_tr RB31.out hb); clear hb
              obtain ⟨x42, hx42, hp42⟩ := hd 1 _ rfl (by kernel_rfl)
              obtain rfl := hp42
              have es42 : a.tmps.getD 42 undef = _ := getD_of hx42; clear hx42
              clear ht hd
              have zc0 := (FE_30.out.below hbw.out (Nat.le_refl _)).cell 2 (v := .int .i64 (f k)) rfl
              have zc1 := (FE_30.out.below hbw.out (Nat.le_refl _)).cell 3 (v := .int .i64 (g k)) rfl
              have HK := Lib.hid hK; clear hK
              refine wpOpP_step (by simp only [List.getElem?_toArray, List.getElem?_cons_succ, List.getElem?_cons_zero]; rfl) (fun K' hK' => ?_)
              have HK' := Lib.hid hK'; clear hK'
              go_simp
              exact HK'.out _ _ (HK.out _ _ below_rf rfl)
            · intro a wz K hb ht hd hK
              have hbw := Lib.hid (below_tr RB31.out hb); clear hb
              have hx7 := (ht 7 rfl).trans rfl
              have es7 : a.tmps.getD 7 undef = _ := getD_of hx7; clear hx7
              clear ht hd
              have HK := Lib.hid hK; clear hK
              refine wpOpP_step (by simp only [List.getElem?_toArray, List.getElem?_cons_succ, List.getElem?_cons_zero]; rfl) (fun K' hK' => ?_)
              have HK' := Lib.hid hK'; clear hK'
              go_simp
              exact HK'.out _ _ (HK.out _ _ below_rf rfl)
            · intro a wz K hb ht hd hK
              have hbw := Lib.hid (below_tr RB31.out hb); clear hb
              obtain ⟨x44, hx44, hp44⟩ := hd 3 _ rfl (by kernel_rfl)
              obtain rfl := hp44
              have es44 : a.tmps.getD 44 undef = _ := getD_of hx44; clear hx44
              clear ht hd
              have zc0 := (FE_30.out.below hbw.out (Nat.le_refl _)).cell 4 (v := .int .i64 (f k2)) rfl
              have zc1 := (FE_30.out.below hbw.out (Nat.le_refl _)).cell 5 (v := .int .i64 (g k2)) rfl
              have HK := Lib.hid hK; clear hK
              refine wpOpP_step (by simp only [List.getElem?_toArray, List.getElem?_cons_succ, List.getElem?_cons_zero]; rfl) (fun K' hK' => ?_)
              have HK' := Lib.hid hK'; clear hK'
              go_simp
              exact HK'.out _ _ (HK.out _ _ below_rf rfl)
            · intro a wz K hb ht hd hK
              have hbw := Lib.hid (below_tr RB31.out hb); clear hb
              have hx9 := (ht 9 rfl).trans rfl
              have es9 : a.tmps.getD 9 undef = _ := getD_of hx9; clear hx9
              clear ht hd
              have zc0 := (FQ_30.out.below hbw.out (Nat.le_refl _)).cell 0 (v := .int .i64 (f q)) rfl
              have zc1 := (FQ_30.out.below hbw.out (Nat.le_refl _)).cell 1 (v := .int .i64 (g q)) rfl
              have HK := Lib.hid hK; clear hK
              refine wpOpP_step (by simp only [List.getElem?_toArray, List.getElem?_cons_succ, List.getElem?_cons_zero]; rfl) (fun K' hK' => ?_)
              have HK' := Lib.hid hK'; clear hK'
              go_simp
              exact HK'.out _ _ (HK.out _ _ below_rf rfl)
            · intro a wz K hb ht hd hK
              have hbw := Lib.hid (below_tr RB31.out hb); clear hb
              obtain ⟨x43, hx43, hp43⟩ := hd 2 _ rfl (by kernel_rfl)
              obtain rfl := hp43
              have es43 : a.tmps.getD 43 undef = _ := getD_of hx43; clear hx43
              obtain ⟨x45, hx45, hp45⟩ := hd 4 _ rfl (by kernel_rfl)
              obtain rfl := hp45
              have es45 : a.tmps.getD 45 undef = _ := getD_of hx45; clear hx45
              obtain ⟨x46, hx46, hp46⟩ := hd 5 _ rfl (by kernel_rfl)
              obtain rfl := hp46
              have es46 : a.tmps.getD 46 undef = _ := getD_of hx46; clear hx46
              clear ht hd
              have HK := Lib.hid hK; clear hK
              refine wpOpP_step (by simp only [List.getElem?_toArray, List.getElem?_cons_succ, List.getElem?_cons_zero]; rfl) (fun K' hK' => ?_)
              have HK' := Lib.hid hK'; clear hK'
              go_simp
              refine (orient_Sign _ _ _ _ _ _ HP3.out _ (FT_30.out.below hbw.out (Nat.le_refl _))).mono ?_
              rintro e w1 ⟨rfl, B⟩
              go_wp2_with fail
              exact HK'.out _ _ (HK.out _ _ B rfl)
            · intro a wz K hb ht hd hK
              have hbw := Lib.hid (below_tr RB31.out hb); clear hb
              obtain ⟨x47, hx47, hp47⟩ := hd 6 _ rfl (by kernel_rfl)
              obtain rfl := hp47
              have es47 : a.tmps.getD 47 undef = _ := getD_of hx47; clear hx47
              clear ht hd
              have HK := Lib.hid hK; clear hK
              refine wpOpP_step (by simp only [List.getElem?_toArray, List.getElem?_cons_succ, List.getElem?_cons_zero]; rfl) (fun K' hK' => ?_)
              have HK' := Lib.hid hK'; clear hK'
              go_simp
              exact HK'.out _ _ (HK.out _ _ below_rf rfl)
            · intro a wz K hb ht hd hK
              have hbw := Lib.hid (below_tr RB31.out hb); clear hb
              have hx5 := (ht 5 rfl).trans rfl
              have es5 : a.tmps.getD 5 undef = _ := getD_of hx5; clear hx5
              clear ht hd
              have zc0 := (FS_30.out.below hbw.out (Nat.le_refl _)).cell 0 (v := .int .i64 (ori f g n)) rfl
              have HK := Lib.hid hK; clear hK
              refine wpOpP_step (by simp only [List.getElem?_toArray, List.getElem?_cons_succ, List.getElem?_cons_zero]; rfl) (fun K' hK' => ?_)
              have HK' := Lib.hid hK'; clear hK'
              go_simp
              exact HK'.out _ _ (HK.out _ _ below_rf rfl)
            · intro a wz K hb ht hd hK
              have hbw := Lib.hid (below_tr RB31.out hb); clear hb
              obtain ⟨x49, hx49, hp49⟩ := hd 8 _ rfl (by kernel_rfl)
              obtain rfl := hp49
              have es49 : a.tmps.getD 49 undef = _ := getD_of hx49; clear hx49
              clear ht hd
              have HK := Lib.hid hK; clear hK
              refine wpOpP_step (by simp only [List.getElem?_toArray, List.getElem?_cons_succ, List.getElem?_cons_zero]; rfl) (fun K' hK' => ?_)
              have HK' := Lib.hid hK'; clear hK'
              go_simp
              exact HK'.out _ _ (HK.out _ _ below_rf rfl)
            · intro a wz K hb ht hd hK
              have hbw := Lib.hid (below_tr RB31.out hb); clear hb
              obtain ⟨x48, hx48, hp48⟩ := hd 7 _ rfl (by kernel_rfl)
              obtain rfl := hp48
              have es48 : a.tmps.getD 48 undef = _ := getD_of hx48; clear hx48
              obtain ⟨x50, hx50, hp50⟩ := hd 9 _ rfl (by kernel_rfl)
              obtain rfl := hp50
              have es50 : a.tmps.getD 50 undef = _ := getD_of hx50; clear hx50
              clear ht hd
              have HK := Lib.hid hK; clear hK
              refine wpOpP_step (by simp only [List.getElem?_toArray, List.getElem?_cons_succ, List.getElem?_cons_zero]; rfl) (fun K' hK' => ?_)
              have HK' := Lib.hid hK'; clear hK'
              go_simp
              refine (mask_Equal _ _ (isW_wrap _) (isW_wrap _) _).mono ?_
              rintro e w1 ⟨rfl, rfl⟩
              rw [HEQ.out]
              go_wp2_with fail
              exact HK'.out _ _ (HK.out _ _ below_rf rfl)
            · intro a wz K hb ht hd hK
              have hbw := Lib.hid (below_tr RB31.out hb); clear hb
              obtain ⟨x41, hx41, hp41⟩ := hd 0 _ rfl (by kernel_rfl)
              obtain rfl := hp41
              have es41 : a.tmps.getD 41 undef = _ := getD_of hx41; clear hx41
              obtain ⟨x51, hx51, hp51⟩ := hd 10 _ rfl (by kernel_rfl)
              obtain rfl := hp51
              have es51 : a.tmps.getD 51 undef = _ := getD_of hx51; clear hx51
              clear ht hd
              have HK := Lib.hid hK; clear hK
              have e1 := HAN.out
              refine wpOpP_step (by simp only [List.getElem?_toArray, List.getElem?_cons_succ, List.getElem?_cons_zero]; rfl) (fun K' hK' => ?_)
              have HK' := Lib.hid hK'; clear hK'
              go_simp
              exact HK'.out _ _ (HK.out _ _ below_rf rfl)
          intro w32 X hb hv
          simp only [List.foldl_cons, List.foldl_nil, Act.put, List.setIfInBounds_toArray, List.set_cons_zero, List.set_cons_succ, List.toList_toArray, List.drop_succ_cons, List.drop_zero]
          obtain ⟨hv0, hv1, hv2, hv3, hv4, hv5, hv6, hv7, hv8, hv9, hv10, hv11, -⟩ := hv
          have hV0 : (fun z_ _ => z_ = .int .u64 (msk (o0 && allB (okAt f g n (ori f g n) k) q))) (X 41) w32 := hv0; clear hv0; have hv0 := hV0; clear hV0; generalize X 41 = X41 at *
          have hV1 : (fun z_ _ => z_ = .pointer (some ⟨Be, 2, none⟩)) (X 42) w32 := hv1; clear hv1; have hv1 := hV1; clear hV1; generalize X 42 = X42 at *
          have hV2 : (fun z_ _ => z_ = .agg #[.int .i64 (f k), .int .i64 (g k)]) (X 43) w32 := hv2; clear hv2; have hv2 := hV2; clear hV2; generalize X 43 = X43 at *
          have hV3 : (fun z_ _ => z_ = .pointer (some ⟨Be, 4, none⟩)) (X 44) w32 := hv3; clear hv3; have hv3 := hV3; clear hV3; generalize X 44 = X44 at *
          have hV4 : (fun z_ _ => z_ = .agg #[.int .i64 (f k2), .int .i64 (g k2)]) (X 45) w32 := hv4; clear hv4; have hv4 := hV4; clear hV4; generalize X 45 = X45 at *
          have hV5 : (fun z_ _ => z_ = .agg #[.int .i64 (f q), .int .i64 (g q)]) (X 46) w32 := hv5; clear hv5; have hv5 := hV5; clear hV5; generalize X 46 = X46 at *
          have hV6 : (fun z_ _ => z_ = .int .i64 (sg (det (f k) (g k) (f k2) (g k2) (f q) (g q)))) (X 47) w32 := hv6; clear hv6; have hv6 := hV6; clear hV6; generalize X 47 = X47 at *
          have hV7 : (fun z_ _ => z_ = .int .u64 (IntKind.u64.wrap (sg (det (f k) (g k) (f k2) (g k2) (f q) (g q))))) (X 48) w32 := hv7; clear hv7; have hv7 := hV7; clear hV7; generalize X 48 = X48 at *
          have hV8 : (fun z_ _ => z_ = .int .i64 (ori f g n)) (X 49) w32 := hv8; clear hv8; have hv8 := hV8; clear hV8; generalize X 49 = X49 at *
          have hV9 : (fun z_ _ => z_ = .int .u64 (IntKind.u64.wrap (ori f g n))) (X 50) w32 := hv9; clear hv9; have hv9 := hV9; clear hV9; generalize X 50 = X50 at *
          have hV10 : (fun z_ _ => z_ = .int .u64 (msk (decide (sg (det (f k) (g k) (f k2) (g k2) (f q) (g q)) = ori f g n)))) (X 51) w32 := hv10; clear hv10; have hv10 := hV10; clear hV10; generalize X 51 = X51 at *
          have hV11 : (fun z_ _ => z_ = .int .u64 (msk ((o0 && allB (okAt f g n (ori f g n) k) q) && decide (sg (det (f k) (g k) (f k2) (g k2) (f q) (g q)) = ori f g n)))) (X 52) w32 := hv11; clear hv11; have hv11 := hV11; clear hV11; generalize X 52 = X52 at *
          obtain rfl := hv0
          obtain rfl := hv1
          obtain rfl := hv2
          obtain rfl := hv3
          obtain rfl := hv4
          obtain rfl := hv5
          obtain rfl := hv6
          obtain rfl := hv7
          obtain rfl := hv8
          obtain rfl := hv9
          obtain rfl := hv10
          obtain rfl := hv11
          have RC := Lib.hid (below_tr RB31.out hb); clear hb
          have FT_32 := Lib.hid (FT_30.out.below RC.out (Nat.le_refl _))
          have FX_32 := Lib.hid (FX_30.out.below RC.out (Nat.le_refl _))
          have FN_32 := Lib.hid (FN_30.out.below RC.out (Nat.le_refl _))
          have FB_32 := Lib.hid (FB_30.out.below RC.out (Nat.le_refl _))
          have FS_32 := Lib.hid (FS_30.out.below RC.out (Nat.le_refl _))
          have FM_32 := Lib.hid (FM_30.out.below RC.out (Nat.le_refl _))
          have FV_32 := Lib.hid (FV_30.out.below RC.out (Nat.le_refl _))
          have FE_32 := Lib.hid (FE_30.out.below RC.out (Nat.le_refl _))
          have FQ_32 := Lib.hid (FQ_30.out.below RC.out (Nat.le_refl _))
          have HB32 := Lib.hid (HS30.out.trans (RC.out.mono HS30.out.size))
          clear HS30 FT_30 FX_30 FN_30 FB_30 FS_30 FM_30 FV_30 FE_30 FQ_30 RB31
          have C33 := Lib.hid (C9.out.trans (HB32.out.mono C9.out.size)); have K33 := Lib.hid (K9.out.trans ((keeps_below HB32.out).from _))
          clear C9 K9
          have BM33 := FM_32
          clear M1
          have BV33 := FV_32
          clear M2
          have BE33 := FE_32
          clear M3
          have BQ33 := FQ_32
          clear M4
          clear HB32 FT_32 FX_32 FN_32 FB_32 FS_32 FM_32 FV_32 FE_32 FQ_32
          have zO := BM33.out.cell 0 (v := .int .u64 (msk (o0 && allB (okAt f g n (ori f g n) k) q))) rfl; have zF := BM33.out.free 0; have zL := BM33.out.lt
          gi_wp2_with fail
          clear zO zF zL
          have C34 := Lib.hid (show Below w3.heap.size w3 (w32.setCell ⟨w3.heap.size, 0, none⟩ (.int .u64 (msk ((o0 && allB (okAt f g n (ori f g n) k) q) && decide (sg (det (f k) (g k) (f k2) (g k2) (f q) (g q)) = ori f g n))))) from C33.out.setCell (p := ⟨w3.heap.size, 0, none⟩) (Nat.le_refl _) _); have K34 := Lib.hid (show KeepsFrom _ _ (w32.setCell ⟨w3.heap.size, 0, none⟩ (.int .u64 (msk ((o0 && allB (okAt f g n (ori f g n) k) q) && decide (sg (det (f k) (g k) (f k2) (g k2) (f q) (g q)) = ori f g n))))) from K33.out.trans ((KeepsOthers.setCell _ _ _).from _))
          clear C33 K33
          have BM34 := Lib.hid (show Bx (w32.setCell ⟨w3.heap.size, 0, none⟩ (.int .u64 (msk ((o0 && allB (okAt f g n (ori f g n) k) q) && decide (sg (det (f k) (g k) (f k2) (g k2) (f q) (g q)) = ori f g n))))) (w3.heap.size) #[.int .u64 (msk ((o0 && allB (okAt f g n (ori f g n) k) q) && decide (sg (det (f k) (g k) (f k2) (g k2) (f q) (g q)) = ori f g n)))] 61 from BM33.out.set 0 _)
          clear BM33
          have BV34 := Lib.hid (show Bx (w32.setCell ⟨w3.heap.size, 0, none⟩ (.int .u64 (msk ((o0 && allB (okAt f g n (ori f g n) k) q) && decide (sg (det (f k) (g k) (f k2) (g k2) (f q) (g q)) = ori f g n))))) (w3.heap.size + 1) #[.slice (some ⟨b, off, none⟩) n c] 29 from BV33.out.other _ (show w3.heap.size + 1 ≠ w3.heap.size from by have h1 := HSZ.out; have h2 := HBE.out; have h3 := HLT.out; omega))
          clear BV33
          have BE34 := Lib.hid (show Bx (w32.setCell ⟨w3.heap.size, 0, none⟩ (.int .u64 (msk ((o0 && allB (okAt f g n (ori f g n) k) q) && decide (sg (det (f k) (g k) (f k2) (g k2) (f q) (g q)) = ori f g n))))) (Be) #[.int .i64 (k : Int), .int .i64 (k2 : Int), .int .i64 (f k), .int .i64 (g k), .int .i64 (f k2), .int .i64 (g k2)] 245 from BE33.out.other _ (show Be ≠ w3.heap.size from by have h1 := HSZ.out; have h2 := HBE.out; have h3 := HLT.out; omega))
          clear BE33
          have BQ34 := Lib.hid (show Bx (w32.setCell ⟨w3.heap.size, 0, none⟩ (.int .u64 (msk ((o0 && allB (okAt f g n (ori f g n) k) q) && decide (sg (det (f k) (g k) (f k2) (g k2) (f q) (g q)) = ori f g n))))) (wr.heap.size) #[.int .i64 (f q), .int .i64 (g q)] 23 from BQ33.out.other _ (show wr.heap.size ≠ w3.heap.size from by have h1 := HSZ.out; have h2 := HBE.out; have h3 := HLT.out; omega))
          clear BQ33
          generalize (w32.setCell ⟨w3.heap.size, 0, none⟩ (.int .u64 (msk ((o0 && allB (okAt f g n (ori f g n) k) q) && decide (sg (det (f k) (g k) (f k2) (g k2) (f q) (g q)) = ori f g n))))) = w34 at *
          go_roundw
          case rel => exact ⟨q + 1, hq1, hpos.out, by rw [← hvq.out]; exact BM34.out, BV34.out, BE34.out, C34.out, K34.out⟩
          case measure => exact hms.out
      · have hqn : q = n := by omega
        rw [hqn] at J1
        gi_wp2_with fail
        refine ⟨J5.out, ⟨below_diff H3.out J4.out J5.out.size, (show _ = _ from J2.out).trans (show _ = _ from H2.out).symm⟩, ?_⟩
        dsimp only; rw [hss.out]
        exact ⟨J1.out, J2.out, J4.out⟩
end Go.Proofs.YtjdiilkljgljkaaGreatDoor
namespace Go.Proofs.YtjdiilkljgljkaaGreatDoor
set_option linter.unusedVariables false
set_option linter.unusedSimpArgs false
open Go.RowKit Wd

/-- the kind of a region, and its methods -/
def tyf (v : Int) : TypeId := if v = 0 then 195 else 196
def validM (v : Int) : FuncId := if v = 0 then 198 else 205
def locateM (v : Int) : FuncId := if v = 0 then 196 else 203
theorem valid_is (v : Int) (x : Value) (w : World) : (method 366 (tyf v) x "geofence/fence.valid").run Tryz.prog w = .ok (validM v, x) w := by
  unfold tyf validM; by_cases h : v = 0
  · rw [if_pos h, if_pos h]; exact round_valid_is x w
  · rw [if_neg h, if_neg h]; exact convex_valid_is x w
theorem locate_is (v : Int) (x : Value) (w : World) : (method 366 (tyf v) x "geofence/fence.locate").run Tryz.prog w = .ok (locateM v, x) w := by
  unfold tyf locateM; by_cases h : v = 0
  · rw [if_pos h, if_pos h]; exact round_locate_is x w
  · rw [if_neg h, if_neg h]; exact convex_locate_is x w
theorem valid_call (v : Int) (args : Array Value) (w : World) : (callFunc (validM v) args).run Tryz.prog w = .ok (.enter (validM v) args) w := by
  unfold validM; by_cases h : v = 0
  · rw [if_pos h]; kernel_rfl
  · rw [if_neg h]; kernel_rfl
theorem locate_call (v : Int) (args : Array Value) (w : World) : (callFunc (locateM v) args).run Tryz.prog w = .ok (.enter (locateM v) args) w := by
  unfold locateM; by_cases h : v = 0
  · rw [if_pos h]; kernel_rfl
  · rw [if_neg h]; kernel_rfl
theorem fence_shapeOf (d : Bool) (v : Int) (A : Option Addr) (n c : Nat) (w : World) :
    Calls Tryz.prog 111 #[.agg #[.bool d, .int .i64 v, .slice A n c]] w fun e w' => e = .returned (.iface (tyf v) (.agg #[.bool d, .int .i64 v, .slice A n c])) ∧ Below w.heap.size w w' := by
  by_cases h : v = 0
  · subst h; exact fence_shapeOf0 d A n c w
  · unfold tyf; rw [if_neg h]; exact fence_shapeOf1 d v h A n c w
/-- whether a region with v vertices (0: a disc) and n points is valid -/
def validR (v : Int) (f g : Nat → Int) (n : Nat) : Bool := if v = 0 then !decide (det (f 0) (g 0) (f 1) (g 1) (f 2) (g 2) = 0) else validP f g n
/-- where a point lies -/
def locR (v : Int) (f g : Nat → Int) (n : Nat) (x y : Int) : Int := if v = 0 then sg (circ (f 0) (g 0) (f 1) (g 1) (f 2) (g 2) x y) * sg (det (f 0) (g 0) (f 1) (g 1) (f 2) (g 2)) else locP f g n x y
theorem Pts.p4 {w : World} {A : Option Addr} {c : Nat} {f g : Nat → Int} (h : Pts w A 3 c f g) {x y : Int} (hx : IsI x) (hy : IsI y) : P4 (f 0) (g 0) (f 1) (g 1) (f 2) (g 2) x y :=
  ⟨(h.isi 0 (by decide)).1, (h.isi 0 (by decide)).2, (h.isi 1 (by decide)).1, (h.isi 1 (by decide)).2, (h.isi 2 (by decide)).1, (h.isi 2 (by decide)).2, hx, hy⟩
set_option maxHeartbeats 4000000 in
set_option maxRecDepth 100000 in
theorem round_valid (d : Bool) (A : Option Addr) (c : Nat) (f g : Nat → Int) (w : World) (hT : TabM w) (hp : Pts w A 3 c f g) :
    Calls Tryz.prog 198 #[.agg #[.bool d, .int .i64 0, .slice A 3 c], .pointer none] w fun e w' => e = .returned (.int .u64 (msk (validR 0 f g 3))) ∧ Below w.heap.size w w' := by
  have HT := Lib.hid hT; have HP := Lib.hid hp; clear hT hp
  go_enter Tryz.func198, Tryz.ntmps198
  go_wp2_with fail
  have HB := Lib.hid (show Below w.heap.size w (w.alloc (.cells #[.bool d, .int .i64 0, .slice A 3 c] 195)) from below_al below_rf)
  refine (disc_Valid3 A c _ _ _ _ _ _ HP.out.p3 _ (HT.out.below HB.out (Nat.le_refl _)) ((HP.out.alloc _).t3)).mono ?_
  rintro e w2 ⟨rfl, B⟩
  have HB2 := Lib.hid (HB.out.trans (B.mono HB.out.size)); clear B HB
  go_wp2_with fail
  go_ret
  exact ⟨rfl, HB2.out⟩
set_option maxHeartbeats 4000000 in
set_option maxRecDepth 100000 in
theorem convex_valid (d : Bool) (v : Int) (hv : v ≠ 0) (A : Option Addr) (n c : Nat) (f g : Nat → Int) (w : World) (hT : TabM w) (hp : Pts w A n c f g) :
    Calls Tryz.prog 205 #[.agg #[.bool d, .int .i64 v, .slice A n c], .pointer none] w fun e w' => e = .returned (.int .u64 (msk (validR v f g n))) ∧ Below w.heap.size w w' := by
  have HT := Lib.hid hT; have HP := Lib.hid hp; clear hT hp
  have HV := Lib.hid hv; clear hv
  go_enter Tryz.func205, Tryz.ntmps205
  go_wp2_with fail
  have HB := Lib.hid (show Below w.heap.size w (w.alloc (.cells #[.bool d, .int .i64 v, .slice A n c] 196)) from below_al below_rf)
  refine (polygon_Valid A n c f g _ (HT.out.below HB.out (Nat.le_refl _)) (HP.out.alloc _)).mono ?_
  rintro e w2 ⟨rfl, B⟩
  have HB2 := Lib.hid (HB.out.trans (B.mono HB.out.size)); clear B HB
  go_wp2_with fail
  go_ret
  exact ⟨by unfold validR; rw [if_neg HV.out]; rfl, HB2.out⟩
set_option maxHeartbeats 4000000 in
set_option maxRecDepth 100000 in
theorem round_locate (d : Bool) (A : Option Addr) (c : Nat) (f g : Nat → Int) (x y : Int) (hx : IsI x) (hy : IsI y) (w : World) (hT : TabM w) (hp : Pts w A 3 c f g) :
    Calls Tryz.prog 196 #[.agg #[.bool d, .int .i64 0, .slice A 3 c], .pointer none, .agg #[.int .i64 x, .int .i64 y]] w fun e w' => e = .returned (.int .i64 (locR 0 f g 3 x y)) ∧ Below w.heap.size w w' := by
  have HT := Lib.hid hT; have HP := Lib.hid hp; clear hT hp
  have HX := Lib.hid hx; have HY := Lib.hid hy; clear hx hy
  go_enter Tryz.func196, Tryz.ntmps196
  go_wp2_with fail
  have HB := Lib.hid (show Below w.heap.size w ((w.alloc (.cells #[.bool d, .int .i64 0, .slice A 3 c] 195)).alloc (.cells #[.int .i64 x, .int .i64 y] 23)) from below_al (below_al below_rf))
  refine (disc_Locate3 A c _ _ _ _ _ _ x y (HP.out.p4 HX.out HY.out) _ (HT.out.below HB.out (Nat.le_refl _)) (((HP.out.alloc _).alloc _).t3)).mono ?_
  rintro e w2 ⟨rfl, B⟩
  have HB2 := Lib.hid (HB.out.trans (B.mono HB.out.size)); clear B HB
  go_wp2_with fail
  go_ret
  exact ⟨rfl, HB2.out⟩
set_option maxHeartbeats 4000000 in
set_option maxRecDepth 100000 in
theorem convex_locate (d : Bool) (v : Int) (hv : v ≠ 0) (A : Option Addr) (n c : Nat) (f g : Nat → Int) (x y : Int) (hx : IsI x) (hy : IsI y) (w : World) (hT : TabM w) (hp : Pts w A n c f g) :
    Calls Tryz.prog 203 #[.agg #[.bool d, .int .i64 v, .slice A n c], .pointer none, .agg #[.int .i64 x, .int .i64 y]] w fun e w' => e = .returned (.int .i64 (locR v f g n x y)) ∧ Below w.heap.size w w' := by
  have HT := Lib.hid hT; have HP := Lib.hid hp; clear hT hp
  have HX := Lib.hid hx; have HY := Lib.hid hy; have HV := Lib.hid hv; clear hx hy hv
  go_enter Tryz.func203, Tryz.ntmps203
  go_wp2_with fail
  have HB := Lib.hid (show Below w.heap.size w ((w.alloc (.cells #[.bool d, .int .i64 v, .slice A n c] 196)).alloc (.cells #[.int .i64 x, .int .i64 y] 23)) from below_al (below_al below_rf))
  refine (polygon_Locate A n c f g x y HX.out HY.out _ (HT.out.below HB.out (Nat.le_refl _)) ((HP.out.alloc _).alloc _)).mono ?_
  rintro e w2 ⟨rfl, B⟩
  have HB2 := Lib.hid (HB.out.trans (B.mono HB.out.size)); clear B HB
  go_wp2_with fail
  go_ret
  exact ⟨by unfold locR; rw [if_neg HV.out]; rfl, HB2.out⟩
theorem shape_valid (d : Bool) (v : Int) (A : Option Addr) (n c : Nat) (hn : (n : Int) = szf v) (f g : Nat → Int) (w : World) (hT : TabM w) (hp : Pts w A n c f g) :
    Calls Tryz.prog (validM v) #[.agg #[.bool d, .int .i64 v, .slice A n c], .pointer none] w fun e w' => e = .returned (.int .u64 (msk (validR v f g n))) ∧ Below w.heap.size w w' := by
  unfold validM; by_cases h : v = 0
  · subst h; obtain rfl : n = 3 := by have : szf 0 = 3 := rfl; omega
    rw [if_pos rfl]; exact round_valid d A c f g w hT hp
  · rw [if_neg h]; exact convex_valid d v h A n c f g w hT hp
theorem shape_locate (d : Bool) (v : Int) (A : Option Addr) (n c : Nat) (hn : (n : Int) = szf v) (f g : Nat → Int) (x y : Int) (hx : IsI x) (hy : IsI y) (w : World) (hT : TabM w) (hp : Pts w A n c f g) :
    Calls Tryz.prog (locateM v) #[.agg #[.bool d, .int .i64 v, .slice A n c], .pointer none, .agg #[.int .i64 x, .int .i64 y]] w fun e w' => e = .returned (.int .i64 (locR v f g n x y)) ∧ Below w.heap.size w w' := by
  unfold locateM; by_cases h : v = 0
  · subst h; obtain rfl : n = 3 := by have : szf 0 = 3 := rfl; omega
    rw [if_pos rfl]; exact round_locate d A c f g x y hx hy w hT hp
  · rw [if_neg h]; exact convex_locate d v h A n c f g x y hx hy w hT hp
end Go.Proofs.YtjdiilkljgljkaaGreatDoor
namespace Go.Proofs.YtjdiilkljgljkaaGreatDoor
set_option linter.unusedVariables false
set_option linter.unusedSimpArgs false
open Go.RowKit Wd

def vR (v : Nat → Int) (Q : Nat → Option Addr × Nat × Nat) (F G : Nat → Nat → Int) : Nat → Bool := fun i => validR (v i) (F i) (G i) (Q i).2.1
/-- a point lies in the closed region -/
def lR (v : Nat → Int) (Q : Nat → Option Addr × Nat × Nat) (F G : Nat → Nat → Int) (x y : Int) : Nat → Bool := fun i => decide (0 ≤ locR (v i) (F i) (G i) (Q i).2.1 x y)
theorem not_decide_lt (x : Int) : (!decide (x < 0)) = decide (0 ≤ x) := by
  by_cases h : x < 0
  · rw [decide_eq_true h, decide_eq_false (by omega)]; rfl
  · rw [decide_eq_false h, decide_eq_true (by omega)]; rfl
set_option maxHeartbeats 4000000 in
set_option maxRecDepth 100000 in
theorem fence_Valid (A : Option Addr) (n c : Nat) (d : Nat → Bool) (v : Nat → Int) (Q : Nat → Option Addr × Nat × Nat) (F G : Nat → Nat → Int) (w : World) (hT : TabM w) (hr : Rgs w A n c d v Q) (hp : RgP w n Q F G) (ho : OkR n v Q) :
    Calls Tryz.prog 134 #[.pointer none, .slice A n c] w fun e w' => e = .returned (.int .u64 (msk (allB (vR v Q F G) n))) ∧ Below w.heap.size w w' := by
  have HT := Lib.hid hT
  have HR := Lib.hid hr
  have HP := Lib.hid hp
  have HO := Lib.hid ho
  have hcp := hr.cap
  have hmx := hr.max
  have h1 := ho.pos
  have h2 := ho.le
  have hm := valid_is
  have hm2 := valid_call
  clear hr ho hT hp
  unfold maxLen at hmx
  obtain ⟨b, off, rfl, hbl, hc⟩ := HR.out.at_ (by omega)
  have HC := Lib.hid hc; have HBL := Lib.hid hbl; clear hc hbl
  go_enter Tryz.func134, Tryz.ntmps134
  go_wp2_with fail
  refine (fence_Check _ n c d v Q _ HR.out HO.out).mono ?_
  rintro e w2 ⟨rfl, B⟩
  have HB2 := Lib.hid B; clear B
  go_wp2_with fail
  refine (mask_Of1 _).mono ?_
  rintro e w3 ⟨rfl, rfl⟩
  go_wp2_with fail
  go_loopw [5, 14] (fun mr ir wr => ∃ k : Nat, k ≤ n ∧ mr = .int .u64 (msk (allB (vR v Q F G) k)) ∧ ir = .int .i64 (k : Int) ∧ Below w.heap.size w wr) (fun _ i _ => n - (intOf i).toNat)
  case atStart => exact ⟨0, by omega, rfl, rfl, HB2.out⟩
  case round =>
    obtain ⟨k, hk, rfl, rfl, hb⟩ := hrel
    have HB := Lib.hid hb; clear hb
    by_cases hlt : k < n
    · have p0 : wr.cell? ⟨b, off + k * 3, none⟩ = some (.bool (d k)) := (HB.out.cell (p := ⟨b, off + k * 3, none⟩) HBL.out).trans (HC.out k hlt).1
      have p1 : wr.cell? ⟨b, off + k * 3 + 1, none⟩ = some (.int .i64 (v k)) := (HB.out.cell (p := ⟨b, off + k * 3 + 1, none⟩) HBL.out).trans (HC.out k hlt).2.1
      have p2 : wr.cell? ⟨b, off + k * 3 + 2, none⟩ = some (.slice (Q k).1 (Q k).2.1 (Q k).2.2) := (HB.out.cell (p := ⟨b, off + k * 3 + 2, none⟩) HBL.out).trans (HC.out k hlt).2.2
      have hms := Lib.hid (show n - (intOf (.int .i64 ((k : Int) + 1))).toNat < n - (intOf (.int .i64 (k : Int))).toNat from by simp [intOf]; omega)
      go_wp2_with fail
      clear p0 p1 p2
      have HX := Lib.hid (Bx.new wr #[.bool (d k), .int .i64 (v k), .slice (Q k).1 (Q k).2.1 (Q k).2.2] 48)
      have HB1 := Lib.hid (HB.out.trans ((show Below wr.heap.size wr (wr.alloc (.cells #[.bool (d k), .int .i64 (v k), .slice (Q k).1 (Q k).2.1 (Q k).2.2] 48)) from below_al below_rf).mono HB.out.size)); clear HB
      refine (tape_Note_nil _ _ _ _).mono ?_
      rintro e w4 ⟨rfl, rfl⟩
      have v0 := HX.out.cell 0 (v := .bool (d k)) rfl
      have v1 := HX.out.cell 1 (v := .int .i64 (v k)) rfl
      have v2 := HX.out.cell 2 (v := .slice (Q k).1 (Q k).2.1 (Q k).2.2) rfl
      go_wp2_with fail
      clear v0 v1 v2
      refine (fence_shapeOf (d k) (v k) _ _ _ _).mono ?_
      rintro e w5 ⟨rfl, B⟩
      have HB2 := Lib.hid (HB1.out.trans (B.mono HB1.out.size)); clear B HB1 HX
      go_wp2_with fail
      refine (shape_valid (d k) (v k) _ _ _ (HO.out.num k hlt) (F k) (G k) _ (HT.out.below HB2.out (Nat.le_refl _)) ((HP.out.pts k hlt).below HB2.out (Nat.le_refl _))).mono ?_
      rintro e w6 ⟨rfl, B⟩
      have HB3 := Lib.hid (HB2.out.trans (B.mono HB2.out.size)); clear B HB2
      have hand := and_msk (allB (vR v Q F G) k) (validR (v k) (F k) (G k) (Q k).2.1)
      go_wp2_with fail
      go_roundw
      case rel => exact ⟨k + 1, hlt, rfl, by go_num, HB3.out⟩
      case measure => exact hms.out
    · obtain rfl : k = n := by omega
      go_wp2_with fail
      go_ret
      exact ⟨rfl, HB.out⟩
end Go.Proofs.YtjdiilkljgljkaaGreatDoor
namespace Go.Proofs.YtjdiilkljgljkaaGreatDoor
set_option linter.unusedVariables false
set_option linter.unusedSimpArgs false
open Go.RowKit Wd


theorem sgnM_range (a b : Bool) : -1 ≤ sgnM a b ∧ sgnM a b ≤ 1 := by cases a <;> cases b <;> decide
theorem locR_isI {v : Int} {f g : Nat → Int} {n : Nat} {x y : Int} : IsI (locR v f g n x y) := by
  unfold locR IsI; split
  · have := sg_mul_range (circ (f 0) (g 0) (f 1) (g 1) (f 2) (g 2) x y) (det (f 0) (g 0) (f 1) (g 1) (f 2) (g 2)); omega
  · unfold locP; split
    · have := sgnM_range (anyB (fun i => decide (sideP f g n x y i < 0)) n) (anyB (fun i => decide (sideP f g n x y i = 0)) n); omega
    · decide
theorem lR_eq (v : Nat → Int) (Q : Nat → Option Addr × Nat × Nat) (F G : Nat → Nat → Int) (x y : Int) (k : Nat) : (!decide (locR (v k) (F k) (G k) (Q k).2.1 x y < 0)) = lR v Q F G x y k := not_decide_lt _
/-- some allowed region contains the point; some denied one does -/
def alR (d : Nat → Bool) (L : Nat → Bool) : Nat → Bool := anyB (fun i => L i && !d i)
def deR (d : Nat → Bool) (L : Nat → Bool) : Nat → Bool := anyB (fun i => L i && d i)
def memR (d : Nat → Bool) (L : Nat → Bool) (n : Nat) : Bool := alR d L n && !deR d L n
theorem andNot_msk (a b : Bool) : bits .andNot .u64 (msk a) (msk b) = msk (a && !b) := by cases a <;> cases b <;> rfl
set_option maxHeartbeats 4000000 in
set_option maxRecDepth 100000 in
theorem fence_Member (A : Option Addr) (n c : Nat) (d : Nat → Bool) (v : Nat → Int) (Q : Nat → Option Addr × Nat × Nat) (F G : Nat → Nat → Int) (x y : Int) (hx : IsI x) (hy : IsI y) (w : World) (hT : TabM w) (hr : Rgs w A n c d v Q) (hp : RgP w n Q F G) (ho : OkR n v Q) :
    Calls Tryz.prog 138 #[.pointer none, .slice A n c, .agg #[.int .i64 x, .int .i64 y]] w fun e w' => e = .returned (.int .u64 (msk (memR d (lR v Q F G x y) n))) ∧ Below w.heap.size w w' := by
  have HT := Lib.hid hT
  have HR := Lib.hid hr
  have HP := Lib.hid hp
  have HO := Lib.hid ho
  have HX := Lib.hid hx
  have HY := Lib.hid hy
  have hcp := hr.cap
  have hmx := hr.max
  have h1 := ho.pos
  have h2 := ho.le
  have hm := locate_is
  have hm2 := locate_call
  clear hr ho hT hp hx hy
  unfold maxLen at hmx
  obtain ⟨b, off, rfl, hbl, hc⟩ := HR.out.at_ (by omega)
  have HC := Lib.hid hc; have HBL := Lib.hid hbl; clear hc hbl
  go_enter Tryz.func138, Tryz.ntmps138
  go_wp2_with fail
  have HB1 := Lib.hid (show Below w.heap.size w (w.alloc (.cells #[.int .i64 x, .int .i64 y] 23)) from below_al below_rf)
  have FP := Lib.hid (Bx.new w #[.int .i64 x, .int .i64 y] 23)
  generalize w.alloc (.cells #[.int .i64 x, .int .i64 y] 23) = w1 at *
  refine (fence_Check _ n c d v Q _ (HR.out.below HB1.out (Nat.le_refl _)) HO.out).mono ?_
  rintro e w2 ⟨rfl, B⟩
  have FP2 := Lib.hid (FP.out.below B (Nat.le_refl _))
  have HB2 := Lib.hid (HB1.out.trans (B.mono HB1.out.size)); clear B HB1 FP
  go_wp2_with fail
  have HB3 := Lib.hid (HB2.out.trans ((show Below w2.heap.size w2 (w2.alloc (.cells #[.int .u64 0, .int .u64 0] 154)) from below_al below_rf).mono HB2.out.size))
  have FI3 := Lib.hid (Bx.new w2 #[.int .u64 0, .int .u64 0] 154)
  have FP3 := Lib.hid (FP2.out.alloc (.cells #[.int .u64 0, .int .u64 0] 154))
  have HIB := Lib.hid (show w.heap.size ≤ w2.heap.size from HB2.out.size)
  have HNE := Lib.hid (show w.heap.size ≠ w2.heap.size from by have := FP2.out.lt; omega)
  clear HB2 FP2
  generalize (w2.alloc (.cells #[.int .u64 0, .int .u64 0] 154)) = w3 at *
  go_loopw [16] (fun ir wr => ∃ k : Nat, k ≤ n ∧ ir = .int .i64 (k : Int) ∧ Bx wr w2.heap.size #[.int .u64 (msk (alR d (lR v Q F G x y) k)), .int .u64 (msk (deR d (lR v Q F G x y) k))] 154 ∧ Bx wr w.heap.size #[.int .i64 x, .int .i64 y] 23 ∧ Below w.heap.size w wr) (fun i _ => n - (intOf i).toNat)
  case atStart => exact ⟨0, by omega, rfl, FI3.out, FP3.out, HB3.out⟩
  case round =>
    obtain ⟨k, hk, rfl, hi, hpt, hb⟩ := hrel
    have HB := Lib.hid hb; have HI := Lib.hid hi; have HPT := Lib.hid hpt; clear hb hi hpt
    by_cases hlt : k < n
    · have p0 : wr.cell? ⟨b, off + k * 3, none⟩ = some (.bool (d k)) := (HB.out.cell (p := ⟨b, off + k * 3, none⟩) HBL.out).trans (HC.out k hlt).1
      have p1 : wr.cell? ⟨b, off + k * 3 + 1, none⟩ = some (.int .i64 (v k)) := (HB.out.cell (p := ⟨b, off + k * 3 + 1, none⟩) HBL.out).trans (HC.out k hlt).2.1
      have p2 : wr.cell? ⟨b, off + k * 3 + 2, none⟩ = some (.slice (Q k).1 (Q k).2.1 (Q k).2.2) := (HB.out.cell (p := ⟨b, off + k * 3 + 2, none⟩) HBL.out).trans (HC.out k hlt).2.2
      have hms := Lib.hid (show n - (intOf (.int .i64 ((k : Int) + 1))).toNat < n - (intOf (.int .i64 (k : Int))).toNat from by simp [intOf]; omega)
      go_wp2_with fail
      clear p0 p1 p2
      have FX := Lib.hid (Bx.new wr #[.bool (d k), .int .i64 (v k), .slice (Q k).1 (Q k).2.1 (Q k).2.2] 48)
      have C := Lib.hid (show Below wr.heap.size wr (wr.alloc (.cells #[.bool (d k), .int .i64 (v k), .slice (Q k).1 (Q k).2.1 (Q k).2.2] 48)) from below_al below_rf)
      have HB1 := Lib.hid (HB.out.trans (C.out.mono HB.out.size))
      have FI := Lib.hid (HI.out.alloc (.cells #[.bool (d k), .int .i64 (v k), .slice (Q k).1 (Q k).2.1 (Q k).2.2] 48))
      have FP := Lib.hid (HPT.out.alloc (.cells #[.bool (d k), .int .i64 (v k), .slice (Q k).1 (Q k).2.1 (Q k).2.2] 48))
      have HXN := Lib.hid (show w.heap.size ≤ wr.heap.size ∧ w2.heap.size < wr.heap.size from ⟨HB.out.size, HI.out.lt⟩)
      clear C HB HI HPT
      obtain ⟨rb, hrb⟩ : ∃ rb, rb = wr.heap.size := ⟨_, rfl⟩
      generalize (wr.alloc (.cells #[.bool (d k), .int .i64 (v k), .slice (Q k).1 (Q k).2.1 (Q k).2.2] 48)) = w4 at *
      refine (tape_Note_nil _ _ _ _).mono ?_
      rintro e w5 ⟨rfl, rfl⟩
      have FT := Lib.hid (HT.out.below HB1.out (Nat.le_refl _))
      have FQ := Lib.hid ((HP.out.pts k hlt).below HB1.out (Nat.le_refl _))
      have hnot := not_msk (decide (locR (v k) (F k) (G k) (Q k).2.1 x y < 0))
      rw [lR_eq] at hnot
      have HN9 := Lib.hid (show bits BinOp.xor IntKind.u64 (if IntKind.u64.signed = true then -1 else IntKind.u64.max) (msk (decide (locR (v k) (F k) (G k) (Q k).2.1 x y < 0))) = msk (lR v Q F G x y k) from hnot)
      clear hnot
      have hor1 := or_msk (alR d (lR v Q F G x y) k) (lR v Q F G x y k)
      have hor2 := or_msk (deR d (lR v Q F G x y) k) (lR v Q F G x y k)
      have v0 := FX.out.cell 0 (v := .bool (d k)) rfl
      cases hd : d k
      · rw [hd] at v0
        have HD := Lib.hid hd; clear hd
        go_wp2_with fail
        clear v0
        refine (wpIn_wide (n := 0)).1 ?_
        refine wpIn_region_any (by kernel_rfl) ?_
        change wpAnyIn _ _ _ _ _ _ _ _ _ (World.drew _)
        have RB10 := Lib.hid (below_drew0 w4)
        refine wpAnyIn_tail WideF.wide (fun a b => Below a.heap.size a b) (fun _ => below_rf) (fun _ _ _ h k => below_tr h k) [⟨0, 26, fun z_ _ => z_ = .int .i64 0⟩, ⟨1, 27, fun z_ _ => z_ = .pointer (some ⟨w2.heap.size, 0, none⟩)⟩, ⟨2, 28, fun z_ _ => z_ = .int .u64 (msk (alR d (lR v Q F G x y) k))⟩, ⟨3, 29, fun z_ _ => z_ = .agg #[.bool (d k), .int .i64 (v k), .slice (Q k).1 (Q k).2.1 (Q k).2.2]⟩, ⟨4, 30, fun z_ _ => z_ = .iface (tyf (v k)) (.agg #[.bool (d k), .int .i64 (v k), .slice (Q k).1 (Q k).2.1 (Q k).2.2])⟩, ⟨5, 31, fun z_ _ => z_ = .pointer none⟩, ⟨6, 32, fun z_ _ => z_ = .agg #[.int .i64 x, .int .i64 y]⟩, ⟨7, 33, fun z_ _ => z_ = .int .i64 (locR (v k) (F k) (G k) (Q k).2.1 x y)⟩, ⟨8, 34, fun z_ _ => z_ = .int .u64 (msk (decide (locR (v k) (F k) (G k) (Q k).2.1 x y < 0)))⟩, ⟨9, 35, fun z_ _ => z_ = .int .u64 (msk (lR v Q F G x y k))⟩, ⟨10, 36, fun z_ _ => z_ = .int .u64 (msk (alR d (lR v Q F G x y) k || lR v Q F G x y k))⟩] 11 (by kernel_rfl) ?_ ?_ ?_
        · refine ⟨?_, ?_, ?_, ?_, ?_, ?_, ?_, ?_, ?_, ?_, ?_, trivial⟩
          all_goals (intro x w w' hb h; first | exact h | (obtain ⟨b_, h1, h2⟩ := h; exact ⟨b_, h1, h2.below hb (Nat.le_refl _)⟩))
        · refine ⟨?_, ?_, ?_, ?_, ?_, ?_, ?_, ?_, ?_, ?_, ?_, trivial⟩
          · intro a wz K hb ht hd hK
            have hbw := Lib.hid (below_tr RB10.out hb); clear hb
            have hx10 := (ht 10 rfl).trans rfl
            have es10 : a.tmps.getD 10 undef = _ := getD_of hx10; clear hx10
            clear ht hd
            have HK := Lib.hid hK; clear hK
            refine wpOpP_step (by simp only [List.getElem?_toArray, List.getElem?_cons_succ, List.getElem?_cons_zero]; rfl) (fun K' hK' => ?_)
            have HK' := Lib.hid hK'; clear hK'
            go_simp
            exact HK'.out _ _ (HK.out _ _ below_rf rfl)
          · intro a wz K hb ht hd hK
            have hbw := Lib.hid (below_tr RB10.out hb); clear hb
            have hx7 := (ht 7 rfl).trans rfl
            have es7 : a.tmps.getD 7 undef = _ := getD_of hx7; clear hx7
            obtain ⟨x26, hx26, hp26⟩ := hd 0 _ rfl (by kernel_rfl)
            obtain rfl := hp26
            have es26 : a.tmps.getD 26 undef = _ := getD_of hx26; clear hx26
            clear ht hd
            have HK := Lib.hid hK; clear hK
            refine wpOpP_step (by simp only [List.getElem?_toArray, List.getElem?_cons_succ, List.getElem?_cons_zero]; rfl) (fun K' hK' => ?_)
            have HK' := Lib.hid hK'; clear hK'
            go_simp
            exact HK'.out _ _ (HK.out _ _ below_rf rfl)
          · intro a wz K hb ht hd hK
            have hbw := Lib.hid (below_tr RB10.out hb); clear hb
            obtain ⟨x27, hx27, hp27⟩ := hd 1 _ rfl (by kernel_rfl)
            obtain rfl := hp27
            have es27 : a.tmps.getD 27 undef = _ := getD_of hx27; clear hx27
            clear ht hd
            have zc0 := (FI.out.below hbw.out (Nat.le_refl _)).cell 0 (v := .int .u64 (msk (alR d (lR v Q F G x y) k))) rfl
            have HK := Lib.hid hK; clear hK
            refine wpOpP_step (by simp only [List.getElem?_toArray, List.getElem?_cons_succ, List.getElem?_cons_zero]; rfl) (fun K' hK' => ?_)
            have HK' := Lib.hid hK'; clear hK'
            go_simp
            exact HK'.out _ _ (HK.out _ _ below_rf rfl)
          · intro a wz K hb ht hd hK
            have hbw := Lib.hid (below_tr RB10.out hb); clear hb
            have hx9 := (ht 9 rfl).trans rfl
            have es9 : a.tmps.getD 9 undef = _ := getD_of hx9; clear hx9
            clear ht hd
            have zc0 := (FX.out.below hbw.out (Nat.le_refl _)).cell 0 (v := .bool (d k)) rfl
            have zc1 := (FX.out.below hbw.out (Nat.le_refl _)).cell 1 (v := .int .i64 (v k)) rfl
            have zc2 := (FX.out.below hbw.out (Nat.le_refl _)).cell 2 (v := .slice (Q k).1 (Q k).2.1 (Q k).2.2) rfl
            have HK := Lib.hid hK; clear hK
            refine wpOpP_step (by simp only [List.getElem?_toArray, List.getElem?_cons_succ, List.getElem?_cons_zero]; rfl) (fun K' hK' => ?_)
            have HK' := Lib.hid hK'; clear hK'
            go_simp
            exact HK'.out _ _ (HK.out _ _ below_rf rfl)
          · intro a wz K hb ht hd hK
            have hbw := Lib.hid (below_tr RB10.out hb); clear hb
            obtain ⟨x29, hx29, hp29⟩ := hd 3 _ rfl (by kernel_rfl)
            obtain rfl := hp29
            have es29 : a.tmps.getD 29 undef = _ := getD_of hx29; clear hx29
            clear ht hd
            have HK := Lib.hid hK; clear hK
            refine wpOpP_step (by simp only [List.getElem?_toArray, List.getElem?_cons_succ, List.getElem?_cons_zero]; rfl) (fun K' hK' => ?_)
            have HK' := Lib.hid hK'; clear hK'
            go_simp
            refine (fence_shapeOf (d k) (v k) _ _ _ _).mono ?_
            rintro e w1 ⟨rfl, B⟩
            go_wp2_with fail
            exact HK'.out _ _ (HK.out _ _ B rfl)
          · intro a wz K hb ht hd hK
            have hbw := Lib.hid (below_tr RB10.out hb); clear hb
            have hx0 := (ht 0 rfl).trans rfl
            have es0 : a.tmps.getD 0 undef = _ := getD_of hx0; clear hx0
            clear ht hd
            have HK := Lib.hid hK; clear hK
            refine wpOpP_step (by simp only [List.getElem?_toArray, List.getElem?_cons_succ, List.getElem?_cons_zero]; rfl) (fun K' hK' => ?_)
            have HK' := Lib.hid hK'; clear hK'
            go_simp
            exact HK'.out _ _ (HK.out _ _ below_rf rfl)
          · intro a wz K hb ht hd hK
            have hbw := Lib.hid (below_tr RB10.out hb); clear hb
            have hx5 := (ht 5 rfl).trans rfl
            have es5 : a.tmps.getD 5 undef = _ := getD_of hx5; clear hx5
            clear ht hd
            have zc0 := (FP.out.below hbw.out (Nat.le_refl _)).cell 0 (v := .int .i64 x) rfl
            have zc1 := (FP.out.below hbw.out (Nat.le_refl _)).cell 1 (v := .int .i64 y) rfl
            have HK := Lib.hid hK; clear hK
            refine wpOpP_step (by simp only [List.getElem?_toArray, List.getElem?_cons_succ, List.getElem?_cons_zero]; rfl) (fun K' hK' => ?_)
            have HK' := Lib.hid hK'; clear hK'
            go_simp
            exact HK'.out _ _ (HK.out _ _ below_rf rfl)
          · intro a wz K hb ht hd hK
            have hbw := Lib.hid (below_tr RB10.out hb); clear hb
            obtain ⟨x30, hx30, hp30⟩ := hd 4 _ rfl (by kernel_rfl)
            obtain rfl := hp30
            have es30 : a.tmps.getD 30 undef = _ := getD_of hx30; clear hx30
            obtain ⟨x31, hx31, hp31⟩ := hd 5 _ rfl (by kernel_rfl)
            obtain rfl := hp31
            have es31 : a.tmps.getD 31 undef = _ := getD_of hx31; clear hx31
            obtain ⟨x32, hx32, hp32⟩ := hd 6 _ rfl (by kernel_rfl)
            obtain rfl := hp32
            have es32 : a.tmps.getD 32 undef = _ := getD_of hx32; clear hx32
            clear ht hd
            have HK := Lib.hid hK; clear hK
            refine wpOpP_step (by simp only [List.getElem?_toArray, List.getElem?_cons_succ, List.getElem?_cons_zero]; rfl) (fun K' hK' => ?_)
            have HK' := Lib.hid hK'; clear hK'
            go_simp
            refine (shape_locate (d k) (v k) _ _ _ (HO.out.num k hlt) (F k) (G k) x y HX.out HY.out _ (FT.out.below hbw.out (Nat.le_refl _)) (FQ.out.below hbw.out (Nat.le_refl _))).mono ?_
            rintro e w1 ⟨rfl, B⟩
            go_wp2_with fail
            exact HK'.out _ _ (HK.out _ _ B rfl)
          · intro a wz K hb ht hd hK
            have hbw := Lib.hid (below_tr RB10.out hb); clear hb
            obtain ⟨x33, hx33, hp33⟩ := hd 7 _ rfl (by kernel_rfl)
            obtain rfl := hp33
            have es33 : a.tmps.getD 33 undef = _ := getD_of hx33; clear hx33
            clear ht hd
            have HK := Lib.hid hK; clear hK
            refine wpOpP_step (by simp only [List.getElem?_toArray, List.getElem?_cons_succ, List.getElem?_cons_zero]; rfl) (fun K' hK' => ?_)
            have HK' := Lib.hid hK'; clear hK'
            go_simp
            refine (mask_Negative _ locR_isI _).mono ?_
            rintro e w1 ⟨rfl, rfl⟩
            go_wp2_with fail
            exact HK'.out _ _ (HK.out _ _ below_rf rfl)
          · intro a wz K hb ht hd hK
            have hbw := Lib.hid (below_tr RB10.out hb); clear hb
            obtain ⟨x34, hx34, hp34⟩ := hd 8 _ rfl (by kernel_rfl)
            obtain rfl := hp34
            have es34 : a.tmps.getD 34 undef = _ := getD_of hx34; clear hx34
            clear ht hd
            have HK := Lib.hid hK; clear hK
            refine wpOpP_step (by simp only [List.getElem?_toArray, List.getElem?_cons_succ, List.getElem?_cons_zero]; rfl) (fun K' hK' => ?_)
            have HK' := Lib.hid hK'; clear hK'
            go_simp
            exact HK'.out _ _ (HK.out _ _ below_rf (congrArg (Value.int .u64) HN9.out))
          · intro a wz K hb ht hd hK
            have hbw := Lib.hid (below_tr RB10.out hb); clear hb
            obtain ⟨x28, hx28, hp28⟩ := hd 2 _ rfl (by kernel_rfl)
            obtain rfl := hp28
            have es28 : a.tmps.getD 28 undef = _ := getD_of hx28; clear hx28
            obtain ⟨x35, hx35, hp35⟩ := hd 9 _ rfl (by kernel_rfl)
            obtain rfl := hp35
            have es35 : a.tmps.getD 35 undef = _ := getD_of hx35; clear hx35
            clear ht hd
            have HK := Lib.hid hK; clear hK
            refine wpOpP_step (by simp only [List.getElem?_toArray, List.getElem?_cons_succ, List.getElem?_cons_zero]; rfl) (fun K' hK' => ?_)
            have HK' := Lib.hid hK'; clear hK'
            go_simp
            exact HK'.out _ _ (HK.out _ _ below_rf rfl)
        intro w11 X hb hv
        simp only [List.foldl_cons, List.foldl_nil, Act.put, List.setIfInBounds_toArray, List.set_cons_zero, List.set_cons_succ, List.toList_toArray, List.drop_succ_cons, List.drop_zero]
        obtain ⟨hv0, hv1, hv2, hv3, hv4, hv5, hv6, hv7, hv8, hv9, hv10, -⟩ := hv
        have hV0 : (fun z_ _ => z_ = .int .i64 0) (X 26) w11 := hv0; clear hv0; have hv0 := hV0; clear hV0; generalize X 26 = X26 at *
        have hV1 : (fun z_ _ => z_ = .pointer (some ⟨w2.heap.size, 0, none⟩)) (X 27) w11 := hv1; clear hv1; have hv1 := hV1; clear hV1; generalize X 27 = X27 at *
        have hV2 : (fun z_ _ => z_ = .int .u64 (msk (alR d (lR v Q F G x y) k))) (X 28) w11 := hv2; clear hv2; have hv2 := hV2; clear hV2; generalize X 28 = X28 at *
        have hV3 : (fun z_ _ => z_ = .agg #[.bool (d k), .int .i64 (v k), .slice (Q k).1 (Q k).2.1 (Q k).2.2]) (X 29) w11 := hv3; clear hv3; have hv3 := hV3; clear hV3; generalize X 29 = X29 at *
        have hV4 : (fun z_ _ => z_ = .iface (tyf (v k)) (.agg #[.bool (d k), .int .i64 (v k), .slice (Q k).1 (Q k).2.1 (Q k).2.2])) (X 30) w11 := hv4; clear hv4; have hv4 := hV4; clear hV4; generalize X 30 = X30 at *
        have hV5 : (fun z_ _ => z_ = .pointer none) (X 31) w11 := hv5; clear hv5; have hv5 := hV5; clear hV5; generalize X 31 = X31 at *
        have hV6 : (fun z_ _ => z_ = .agg #[.int .i64 x, .int .i64 y]) (X 32) w11 := hv6; clear hv6; have hv6 := hV6; clear hV6; generalize X 32 = X32 at *
        have hV7 : (fun z_ _ => z_ = .int .i64 (locR (v k) (F k) (G k) (Q k).2.1 x y)) (X 33) w11 := hv7; clear hv7; have hv7 := hV7; clear hV7; generalize X 33 = X33 at *
        have hV8 : (fun z_ _ => z_ = .int .u64 (msk (decide (locR (v k) (F k) (G k) (Q k).2.1 x y < 0)))) (X 34) w11 := hv8; clear hv8; have hv8 := hV8; clear hV8; generalize X 34 = X34 at *
        have hV9 : (fun z_ _ => z_ = .int .u64 (msk (lR v Q F G x y k))) (X 35) w11 := hv9; clear hv9; have hv9 := hV9; clear hV9; generalize X 35 = X35 at *
        have hV10 : (fun z_ _ => z_ = .int .u64 (msk (alR d (lR v Q F G x y) k || lR v Q F G x y k))) (X 36) w11 := hv10; clear hv10; have hv10 := hV10; clear hV10; generalize X 36 = X36 at *
        obtain rfl := hv0
        obtain rfl := hv1
        obtain rfl := hv2
        obtain rfl := hv3
        obtain rfl := hv4
        obtain rfl := hv5
        obtain rfl := hv6
        obtain rfl := hv7
        obtain rfl := hv8
        obtain rfl := hv9
        obtain rfl := hv10
        have RC := Lib.hid (below_tr RB10.out hb); clear hb
        have FT_11 := Lib.hid (FT.out.below RC.out (Nat.le_refl _))
        have FQ_11 := Lib.hid (FQ.out.below RC.out (Nat.le_refl _))
        have FX_11 := Lib.hid (FX.out.below RC.out (Nat.le_refl _))
        have FI_11 := Lib.hid (FI.out.below RC.out (Nat.le_refl _))
        have FP_11 := Lib.hid (FP.out.below RC.out (Nat.le_refl _))
        have HB11 := Lib.hid (HB1.out.trans (RC.out.mono HB1.out.size))
        clear HB1 FT FQ FX FI FP RB10
        have q0 := FI_11.out.cell 0 (v := .int .u64 (msk (alR d (lR v Q F G x y) k))) rfl; have z0 := FI_11.out.free 0
        gi_wp2_with fail
        have HI9 := Lib.hid (show Bx (w11.setCell ⟨w2.heap.size, 0, none⟩ (.int .u64 (msk (alR d (lR v Q F G x y) k || lR v Q F G x y k)))) w2.heap.size #[.int .u64 (msk (alR d (lR v Q F G x y) k || lR v Q F G x y k)), .int .u64 (msk (deR d (lR v Q F G x y) k))] 154 from FI_11.out.set 0 _)
        have HP9 := Lib.hid (show Bx (w11.setCell ⟨w2.heap.size, 0, none⟩ (.int .u64 (msk (alR d (lR v Q F G x y) k || lR v Q F G x y k)))) w.heap.size #[.int .i64 x, .int .i64 y] 23 from FP_11.out.other _ HNE.out)
        have HB9 := Lib.hid (show Below w.heap.size w (w11.setCell ⟨w2.heap.size, 0, none⟩ (.int .u64 (msk (alR d (lR v Q F G x y) k || lR v Q F G x y k)))) from below_st HIB.out HB11.out)
        have HA := Lib.hid (show alR d (lR v Q F G x y) (k + 1) = (alR d (lR v Q F G x y) k || lR v Q F G x y k) from by unfold alR; rw [anyB, HD.out]; simp)
        have HE := Lib.hid (show deR d (lR v Q F G x y) (k + 1) = deR d (lR v Q F G x y) k from by unfold deR; rw [anyB, HD.out]; simp)
        go_wp2_with fail
        go_roundw
        case rel => exact ⟨k + 1, hlt, by go_num, by rw [HA.out, HE.out]; exact HI9.out, HP9.out, HB9.out⟩
        case measure => exact hms.out
      · rw [hd] at v0
        have HD := Lib.hid hd; clear hd
        go_wp2_with fail
        clear v0
        refine (wpIn_wide (n := 0)).1 ?_
        refine wpIn_region_any (by kernel_rfl) ?_
        change wpAnyIn _ _ _ _ _ _ _ _ _ (World.drew _)
        have RB10 := Lib.hid (below_drew0 w4)
        refine wpAnyIn_tail WideF.wide (fun a b => Below a.heap.size a b) (fun _ => below_rf) (fun _ _ _ h k => below_tr h k) [⟨0, 26, fun z_ _ => z_ = .int .i64 1⟩, ⟨1, 27, fun z_ _ => z_ = .pointer (some ⟨w2.heap.size, 1, none⟩)⟩, ⟨2, 28, fun z_ _ => z_ = .int .u64 (msk (deR d (lR v Q F G x y) k))⟩, ⟨3, 29, fun z_ _ => z_ = .agg #[.bool (d k), .int .i64 (v k), .slice (Q k).1 (Q k).2.1 (Q k).2.2]⟩, ⟨4, 30, fun z_ _ => z_ = .iface (tyf (v k)) (.agg #[.bool (d k), .int .i64 (v k), .slice (Q k).1 (Q k).2.1 (Q k).2.2])⟩, ⟨5, 31, fun z_ _ => z_ = .pointer none⟩, ⟨6, 32, fun z_ _ => z_ = .agg #[.int .i64 x, .int .i64 y]⟩, ⟨7, 33, fun z_ _ => z_ = .int .i64 (locR (v k) (F k) (G k) (Q k).2.1 x y)⟩, ⟨8, 34, fun z_ _ => z_ = .int .u64 (msk (decide (locR (v k) (F k) (G k) (Q k).2.1 x y < 0)))⟩, ⟨9, 35, fun z_ _ => z_ = .int .u64 (msk (lR v Q F G x y k))⟩, ⟨10, 36, fun z_ _ => z_ = .int .u64 (msk (deR d (lR v Q F G x y) k || lR v Q F G x y k))⟩] 11 (by kernel_rfl) ?_ ?_ ?_
        · refine ⟨?_, ?_, ?_, ?_, ?_, ?_, ?_, ?_, ?_, ?_, ?_, trivial⟩
          all_goals (intro x w w' hb h; first | exact h | (obtain ⟨b_, h1, h2⟩ := h; exact ⟨b_, h1, h2.below hb (Nat.le_refl _)⟩))
        · refine ⟨?_, ?_, ?_, ?_, ?_, ?_, ?_, ?_, ?_, ?_, ?_, trivial⟩
          · intro a wz K hb ht hd hK
            have hbw := Lib.hid (below_tr RB10.out hb); clear hb
            have hx10 := (ht 10 rfl).trans rfl
            have es10 : a.tmps.getD 10 undef = _ := getD_of hx10; clear hx10
            clear ht hd
            have HK := Lib.hid hK; clear hK
            refine wpOpP_step (by simp only [List.getElem?_toArray, List.getElem?_cons_succ, List.getElem?_cons_zero]; rfl) (fun K' hK' => ?_)
            have HK' := Lib.hid hK'; clear hK'
            go_simp
            exact HK'.out _ _ (HK.out _ _ below_rf rfl)
          · intro a wz K hb ht hd hK
            have hbw := Lib.hid (below_tr RB10.out hb); clear hb
            have hx7 := (ht 7 rfl).trans rfl
            have es7 : a.tmps.getD 7 undef = _ := getD_of hx7; clear hx7
            obtain ⟨x26, hx26, hp26⟩ := hd 0 _ rfl (by kernel_rfl)
            obtain rfl := hp26
            have es26 : a.tmps.getD 26 undef = _ := getD_of hx26; clear hx26
            clear ht hd
            have HK := Lib.hid hK; clear hK
            refine wpOpP_step (by simp only [List.getElem?_toArray, List.getElem?_cons_succ, List.getElem?_cons_zero]; rfl) (fun K' hK' => ?_)
            have HK' := Lib.hid hK'; clear hK'
            go_simp
            exact HK'.out _ _ (HK.out _ _ below_rf rfl)
          · intro a wz K hb ht hd hK
            have hbw := Lib.hid (below_tr RB10.out hb); clear hb
            obtain ⟨x27, hx27, hp27⟩ := hd 1 _ rfl (by kernel_rfl)
            obtain rfl := hp27
            have es27 : a.tmps.getD 27 undef = _ := getD_of hx27; clear hx27
            clear ht hd
            have zc0 := (FI.out.below hbw.out (Nat.le_refl _)).cell 1 (v := .int .u64 (msk (deR d (lR v Q F G x y) k))) rfl
            have HK := Lib.hid hK; clear hK
            refine wpOpP_step (by simp only [List.getElem?_toArray, List.getElem?_cons_succ, List.getElem?_cons_zero]; rfl) (fun K' hK' => ?_)
            have HK' := Lib.hid hK'; clear hK'
            go_simp
            exact HK'.out _ _ (HK.out _ _ below_rf rfl)
          · intro a wz K hb ht hd hK
            have hbw := Lib.hid (below_tr RB10.out hb); clear hb
            have hx9 := (ht 9 rfl).trans rfl
            have es9 : a.tmps.getD 9 undef = _ := getD_of hx9; clear hx9
            clear ht hd
            have zc0 := (FX.out.below hbw.out (Nat.le_refl _)).cell 0 (v := .bool (d k)) rfl
            have zc1 := (FX.out.below hbw.out (Nat.le_refl _)).cell 1 (v := .int .i64 (v k)) rfl
            have zc2 := (FX.out.below hbw.out (Nat.le_refl _)).cell 2 (v := .slice (Q k).1 (Q k).2.1 (Q k).2.2) rfl
            have HK := Lib.hid hK; clear hK
            refine wpOpP_step (by simp only [List.getElem?_toArray, List.getElem?_cons_succ, List.getElem?_cons_zero]; rfl) (fun K' hK' => ?_)
            have HK' := Lib.hid hK'; clear hK'
            go_simp
            exact HK'.out _ _ (HK.out _ _ below_rf rfl)
          · intro a wz K hb ht hd hK
            have hbw := Lib.hid (below_tr RB10.out hb); clear hb
            obtain ⟨x29, hx29, hp29⟩ := hd 3 _ rfl (by kernel_rfl)
            obtain rfl := hp29
            have es29 : a.tmps.getD 29 undef = _ := getD_of hx29; clear hx29
            clear ht hd
            have HK := Lib.hid hK; clear hK
            refine wpOpP_step (by simp only [List.getElem?_toArray, List.getElem?_cons_succ, List.getElem?_cons_zero]; rfl) (fun K' hK' => ?_)
            have HK' := Lib.hid hK'; clear hK'
            go_simp
            refine (fence_shapeOf (d k) (v k) _ _ _ _).mono ?_
            rintro e w1 ⟨rfl, B⟩
            go_wp2_with fail
            exact HK'.out _ _ (HK.out _ _ B rfl)
          · intro a wz K hb ht hd hK
            have hbw := Lib.hid (below_tr RB10.out hb); clear hb
            have hx0 := (ht 0 rfl).trans rfl
            have es0 : a.tmps.getD 0 undef = _ := getD_of hx0; clear hx0
            clear ht hd
            have HK := Lib.hid hK; clear hK
            refine wpOpP_step (by simp only [List.getElem?_toArray, List.getElem?_cons_succ, List.getElem?_cons_zero]; rfl) (fun K' hK' => ?_)
            have HK' := Lib.hid hK'; clear hK'
            go_simp
            exact HK'.out _ _ (HK.out _ _ below_rf rfl)
          · intro a wz K hb ht hd hK
            have hbw := Lib.hid (below_tr RB10.out hb); clear hb
            have hx5 := (ht 5 rfl).trans rfl
            have es5 : a.tmps.getD 5 undef = _ := getD_of hx5; clear hx5
            clear ht hd
            have zc0 := (FP.out.below hbw.out (Nat.le_refl _)).cell 0 (v := .int .i64 x) rfl
            have zc1 := (FP.out.below hbw.out (Nat.le_refl _)).cell 1 (v := .int .i64 y) rfl
            have HK := Lib.hid hK; clear hK
            refine wpOpP_step (by simp only [List.getElem?_toArray, List.getElem?_cons_succ, List.getElem?_cons_zero]; rfl) (fun K' hK' => ?_)
            have HK' := Lib.hid hK'; clear hK'
            go_simp
            exact HK'.out _ _ (HK.out _ _ below_rf rfl)
          · intro a wz K hb ht hd hK
            have hbw := Lib.hid (below_tr RB10.out hb); clear hb
            obtain ⟨x30, hx30, hp30⟩ := hd 4 _ rfl (by kernel_rfl)
            obtain rfl := hp30
            have es30 : a.tmps.getD 30 undef = _ := getD_of hx30; clear hx30
            obtain ⟨x31, hx31, hp31⟩ := hd 5 _ rfl (by kernel_rfl)
            obtain rfl := hp31
            have es31 : a.tmps.getD 31 undef = _ := getD_of hx31; clear hx31
            obtain ⟨x32, hx32, hp32⟩ := hd 6 _ rfl (by kernel_rfl)
            obtain rfl := hp32
            have es32 : a.tmps.getD 32 undef = _ := getD_of hx32; clear hx32
            clear ht hd
            have HK := Lib.hid hK; clear hK
            refine wpOpP_step (by simp only [List.getElem?_toArray, List.getElem?_cons_succ, List.getElem?_cons_zero]; rfl) (fun K' hK' => ?_)
            have HK' := Lib.hid hK'; clear hK'
            go_simp
            refine (shape_locate (d k) (v k) _ _ _ (HO.out.num k hlt) (F k) (G k) x y HX.out HY.out _ (FT.out.below hbw.out (Nat.le_refl _)) (FQ.out.below hbw.out (Nat.le_refl _))).mono ?_
            rintro e w1 ⟨rfl, B⟩
            go_wp2_with fail
            exact HK'.out _ _ (HK.out _ _ B rfl)
          · intro a wz K hb ht hd hK
            have hbw := Lib.hid (below_tr RB10.out hb); clear hb
            obtain ⟨x33, hx33, hp33⟩ := hd 7 _ rfl (by kernel_rfl)
            obtain rfl := hp33
            have es33 : a.tmps.getD 33 undef = _ := getD_of hx33; clear hx33
            clear ht hd
            have HK := Lib.hid hK; clear hK
            refine wpOpP_step (by simp only [List.getElem?_toArray, List.getElem?_cons_succ, List.getElem?_cons_zero]; rfl) (fun K' hK' => ?_)
            have HK' := Lib.hid hK'; clear hK'
            go_simp
            refine (mask_Negative _ locR_isI _).mono ?_
            rintro e w1 ⟨rfl, rfl⟩
            go_wp2_with fail
            exact HK'.out _ _ (HK.out _ _ below_rf rfl)
          · intro a wz K hb ht hd hK
            have hbw := Lib.hid (below_tr RB10.out hb); clear hb
            obtain ⟨x34, hx34, hp34⟩ := hd 8 _ rfl (by kernel_rfl)
            obtain rfl := hp34
            have es34 : a.tmps.getD 34 undef = _ := getD_of hx34; clear hx34
            clear ht hd
            have HK := Lib.hid hK; clear hK
            refine wpOpP_step (by simp only [List.getElem?_toArray, List.getElem?_cons_succ, List.getElem?_cons_zero]; rfl) (fun K' hK' => ?_)
            have HK' := Lib.hid hK'; clear hK'
            go_simp
            exact HK'.out _ _ (HK.out _ _ below_rf (congrArg (Value.int .u64) HN9.out))
          · intro a wz K hb ht hd hK
            have hbw := Lib.hid (below_tr RB10.out hb); clear hb
            obtain ⟨x28, hx28, hp28⟩ := hd 2 _ rfl (by kernel_rfl)
            obtain rfl := hp28
            have es28 : a.tmps.getD 28 undef = _ := getD_of hx28; clear hx28
            obtain ⟨x35, hx35, hp35⟩ := hd 9 _ rfl (by kernel_rfl)
            obtain rfl := hp35
            have es35 : a.tmps.getD 35 undef = _ := getD_of hx35; clear hx35
            clear ht hd
            have HK := Lib.hid hK; clear hK
            refine wpOpP_step (by simp only [List.getElem?_toArray, List.getElem?_cons_succ, List.getElem?_cons_zero]; rfl) (fun K' hK' => ?_)
            have HK' := Lib.hid hK'; clear hK'
            go_simp
            exact HK'.out _ _ (HK.out _ _ below_rf rfl)
        intro w11 X hb hv
        simp only [List.foldl_cons, List.foldl_nil, Act.put, List.setIfInBounds_toArray, List.set_cons_zero, List.set_cons_succ, List.toList_toArray, List.drop_succ_cons, List.drop_zero]
        obtain ⟨hv0, hv1, hv2, hv3, hv4, hv5, hv6, hv7, hv8, hv9, hv10, -⟩ := hv
        have hV0 : (fun z_ _ => z_ = .int .i64 1) (X 26) w11 := hv0; clear hv0; have hv0 := hV0; clear hV0; generalize X 26 = X26 at *
        have hV1 : (fun z_ _ => z_ = .pointer (some ⟨w2.heap.size, 1, none⟩)) (X 27) w11 := hv1; clear hv1; have hv1 := hV1; clear hV1; generalize X 27 = X27 at *
        have hV2 : (fun z_ _ => z_ = .int .u64 (msk (deR d (lR v Q F G x y) k))) (X 28) w11 := hv2; clear hv2; have hv2 := hV2; clear hV2; generalize X 28 = X28 at *
        have hV3 : (fun z_ _ => z_ = .agg #[.bool (d k), .int .i64 (v k), .slice (Q k).1 (Q k).2.1 (Q k).2.2]) (X 29) w11 := hv3; clear hv3; have hv3 := hV3; clear hV3; generalize X 29 = X29 at *
        have hV4 : (fun z_ _ => z_ = .iface (tyf (v k)) (.agg #[.bool (d k), .int .i64 (v k), .slice (Q k).1 (Q k).2.1 (Q k).2.2])) (X 30) w11 := hv4; clear hv4; have hv4 := hV4; clear hV4; generalize X 30 = X30 at *
        have hV5 : (fun z_ _ => z_ = .pointer none) (X 31) w11 := hv5; clear hv5; have hv5 := hV5; clear hV5; generalize X 31 = X31 at *
        have hV6 : (fun z_ _ => z_ = .agg #[.int .i64 x, .int .i64 y]) (X 32) w11 := hv6; clear hv6; have hv6 := hV6; clear hV6; generalize X 32 = X32 at *
        have hV7 : (fun z_ _ => z_ = .int .i64 (locR (v k) (F k) (G k) (Q k).2.1 x y)) (X 33) w11 := hv7; clear hv7; have hv7 := hV7; clear hV7; generalize X 33 = X33 at *
        have hV8 : (fun z_ _ => z_ = .int .u64 (msk (decide (locR (v k) (F k) (G k) (Q k).2.1 x y < 0)))) (X 34) w11 := hv8; clear hv8; have hv8 := hV8; clear hV8; generalize X 34 = X34 at *
        have hV9 : (fun z_ _ => z_ = .int .u64 (msk (lR v Q F G x y k))) (X 35) w11 := hv9; clear hv9; have hv9 := hV9; clear hV9; generalize X 35 = X35 at *
        have hV10 : (fun z_ _ => z_ = .int .u64 (msk (deR d (lR v Q F G x y) k || lR v Q F G x y k))) (X 36) w11 := hv10; clear hv10; have hv10 := hV10; clear hV10; generalize X 36 = X36 at *
        obtain rfl := hv0
        obtain rfl := hv1
        obtain rfl := hv2
        obtain rfl := hv3
        obtain rfl := hv4
        obtain rfl := hv5
        obtain rfl := hv6
        obtain rfl := hv7
        obtain rfl := hv8
        obtain rfl := hv9
        obtain rfl := hv10
        have RC := Lib.hid (below_tr RB10.out hb); clear hb
        have FT_11 := Lib.hid (FT.out.below RC.out (Nat.le_refl _))
        have FQ_11 := Lib.hid (FQ.out.below RC.out (Nat.le_refl _))
        have FX_11 := Lib.hid (FX.out.below RC.out (Nat.le_refl _))
        have FI_11 := Lib.hid (FI.out.below RC.out (Nat.le_refl _))
        have FP_11 := Lib.hid (FP.out.below RC.out (Nat.le_refl _))
        have HB11 := Lib.hid (HB1.out.trans (RC.out.mono HB1.out.size))
        clear HB1 FT FQ FX FI FP RB10
        have q1 := FI_11.out.cell 1 (v := .int .u64 (msk (deR d (lR v Q F G x y) k))) rfl; have z1 := FI_11.out.free 1
        gi_wp2_with fail
        have HI9 := Lib.hid (show Bx (w11.setCell ⟨w2.heap.size, 1, none⟩ (.int .u64 (msk (deR d (lR v Q F G x y) k || lR v Q F G x y k)))) w2.heap.size #[.int .u64 (msk (alR d (lR v Q F G x y) k)), .int .u64 (msk (deR d (lR v Q F G x y) k || lR v Q F G x y k))] 154 from FI_11.out.set 1 _)
        have HP9 := Lib.hid (show Bx (w11.setCell ⟨w2.heap.size, 1, none⟩ (.int .u64 (msk (deR d (lR v Q F G x y) k || lR v Q F G x y k)))) w.heap.size #[.int .i64 x, .int .i64 y] 23 from FP_11.out.other _ HNE.out)
        have HB9 := Lib.hid (show Below w.heap.size w (w11.setCell ⟨w2.heap.size, 1, none⟩ (.int .u64 (msk (deR d (lR v Q F G x y) k || lR v Q F G x y k)))) from below_st HIB.out HB11.out)
        have HA := Lib.hid (show alR d (lR v Q F G x y) (k + 1) = alR d (lR v Q F G x y) k from by unfold alR; rw [anyB, HD.out]; simp)
        have HE := Lib.hid (show deR d (lR v Q F G x y) (k + 1) = (deR d (lR v Q F G x y) k || lR v Q F G x y k) from by unfold deR; rw [anyB, HD.out]; simp)
        go_wp2_with fail
        go_roundw
        case rel => exact ⟨k + 1, hlt, by go_num, by rw [HA.out, HE.out]; exact HI9.out, HP9.out, HB9.out⟩
        case measure => exact hms.out
    · obtain rfl : k = n := by omega
      have q0 := HI.out.cell 0 (v := .int .u64 (msk (alR d (lR v Q F G x y) k))) rfl
      have q1 := HI.out.cell 1 (v := .int .u64 (msk (deR d (lR v Q F G x y) k))) rfl
      have hand := andNot_msk (alR d (lR v Q F G x y) k) (deR d (lR v Q F G x y) k)
      go_wp2_with fail
      go_ret
      exact ⟨rfl, HB.out⟩
end Go.Proofs.YtjdiilkljgljkaaGreatDoor
