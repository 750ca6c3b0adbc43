/- The contract of polygon.Valid, with a tape. -/
import Derived.Test.YtoikcgmdlccdbaaDoorTape4
import Derived.Test.YtoikcgmdlccdbaaDoorPolyR
namespace Go.Proofs.YtoikcgmdlccdbaaDoor
set_option linter.unusedVariables false
set_option linter.unusedSimpArgs false
open Go.RowKit Wd Go.Shelf
attribute [local go_sem] Oper.semAt_some

set_option maxRecDepth 100000 in
set_option maxHeartbeats 8000000 in
theorem polygon_ValidT (r : World) (T m nr : Nat) (A : Option Addr) (n c : Nat) (f g : Nat → Int) (hn70 : n ≤ 70) (w : World) (hT : TabM r) (hp : Pts r A n c f g) (hb : Below r.heap.size r w) (ht : TapeV r.heap.size nr w T m []) :
    Calls Tryd.prog 40 #[.pointer (some ⟨T, 0, none⟩), .slice A n c] w fun e w' => e = .returned (.int .u64 (msk (validP f g n))) ∧ Below r.heap.size r w' ∧ TapeV r.heap.size nr w' T m (valEvs n (eds n)) ∧ QV T m nr w w' := by
  have hm := Nat.le_trans hp.cap hp.max
  have RT := Lib.hid hT; have RX := Lib.hid hp; have FT := Lib.hid (hT.below hb (Nat.le_refl _)); have FX := Lib.hid (hp.below hb (Nat.le_refl _)); have FK := Lib.hid ht; have FQ := Lib.hid (QV.refl T m w ht.lw); have HTL := Lib.hid ht.ltT
  have HB0 := Lib.hid hb; have HRW := Lib.hid hb.size
  clear hT hp hb ht
  have HR := Lib.hid (ori_range f g n)
  have HX1 := Lib.hid (not_msk (decide (ori f g n = 0)))
  refine (callsIn_wide (n := 8)).1 ?_
  refine callsIn_of_wp_marks Tryd.func40 rfl trivial ?_ rfl
  simp only [Tryd.ntmps40, List.size_toArray, List.length_cons, List.length_nil, Nat.reduceAdd, Nat.reduceSub, Array.replicate_succ, Array.replicate_zero, List.push_toArray, List.append_toArray, List.nil_append, List.cons_append]
  gi_wp2_with fail
  have B : Below r.heap.size r ((w.alloc (.cells #[.pointer (some ⟨T, 0, none⟩)] 47)).alloc (.cells #[.slice A n c] 35)) := ((HB0.out.alloc HB0.out.size _).alloc (HB0.out.alloc HB0.out.size _).size _)
  have C : Below w.heap.size w ((w.alloc (.cells #[.pointer (some ⟨T, 0, none⟩)] 47)).alloc (.cells #[.slice A n c] 35)) := (((Below.refl w.heap.size w).alloc (Nat.le_refl _) _).alloc (by simp; try omega) _)
  have X0 : Bx ((w.alloc (.cells #[.pointer (some ⟨T, 0, none⟩)] 47)).alloc (.cells #[.slice A n c] 35)) (w.heap.size) #[.pointer (some ⟨T, 0, none⟩)] 47 := by simpa using ((Bx.new w #[.pointer (some ⟨T, 0, none⟩)] 47).alloc _)
  have X1 : Bx ((w.alloc (.cells #[.pointer (some ⟨T, 0, none⟩)] 47)).alloc (.cells #[.slice A n c] 35)) (w.heap.size + 1) #[.slice A n c] 35 := by simpa using (Bx.new (w.alloc (.cells #[.pointer (some ⟨T, 0, none⟩)] 47)) #[.slice A n c] 35)
  have FT_1 := Lib.hid (FT.out.below C (Nat.le_refl _))
  have FX_1 := Lib.hid (FX.out.below C (Nat.le_refl _))
  have FK_1 := Lib.hid (FK.out.below C (Nat.le_refl _))
  have FQ_1 := Lib.hid (FQ.out.below C (Nat.le_refl _))
  have HB1 := Lib.hid B
  have FN_1 := Lib.hid X0
  have FB_1 := Lib.hid X1
  clear B C X0 X1 HB0 FT FX FK FQ
  generalize ((w.alloc (.cells #[.pointer (some ⟨T, 0, none⟩)] 47)).alloc (.cells #[.slice A n c] 35)) = w1 at *
  skip
  try refine ⟨trivial, ?_⟩
  refine CallsIn.mono (n := _) (callsIn_wide.2 (polygon_Orientation _ n c f g _ FT_1.out FX_1.out)) ?_
  rintro e w2 ⟨rfl, B⟩
  have HB2 := Lib.hid (HB1.out.trans (B.mono HB1.out.size))
  have FT_2 := Lib.hid (FT_1.out.below B (Nat.le_refl _))
  have FX_2 := Lib.hid (FX_1.out.below B (Nat.le_refl _))
  have FK_2 := Lib.hid (FK_1.out.below B (Nat.le_refl _))
  have FQ_2 := Lib.hid (FQ_1.out.below B (Nat.le_refl _))
  have FN_2 := Lib.hid (FN_1.out.below B (Nat.le_refl _))
  have FB_2 := Lib.hid (FB_1.out.below B (Nat.le_refl _))
  clear B  HB1 FT_1 FX_1 FK_1 FQ_1 FN_1 FB_1
  have HP2 := Lib.hid FB_2.out.lt
  gi_wp2_with fail
  have B : Below r.heap.size r (w2.alloc (.cells #[.int .i64 (ori f g n)] 2)) := (HB2.out.alloc HB2.out.size _)
  have C : Below w2.heap.size w2 (w2.alloc (.cells #[.int .i64 (ori f g n)] 2)) := ((Below.refl w2.heap.size w2).alloc (Nat.le_refl _) _)
  have X0 : Bx (w2.alloc (.cells #[.int .i64 (ori f g n)] 2)) (w2.heap.size) #[.int .i64 (ori f g n)] 2 := by simpa using (Bx.new w2 #[.int .i64 (ori f g n)] 2)
  have FT_3 := Lib.hid (FT_2.out.below C (Nat.le_refl _))
  have FX_3 := Lib.hid (FX_2.out.below C (Nat.le_refl _))
  have FK_3 := Lib.hid (FK_2.out.below C (Nat.le_refl _))
  have FQ_3 := Lib.hid (FQ_2.out.below C (Nat.le_refl _))
  have FN_3 := Lib.hid (FN_2.out.below C (Nat.le_refl _))
  have FB_3 := Lib.hid (FB_2.out.below C (Nat.le_refl _))
  have HB3 := Lib.hid B
  have FS_3 := Lib.hid X0
  clear B C X0 HB2 FT_2 FX_2 FK_2 FQ_2 FN_2 FB_2
  generalize (w2.alloc (.cells #[.int .i64 (ori f g n)] 2)) = w3 at *
  have HS3 := Lib.hid FS_3.out.lt
  skip
  try refine ⟨trivial, ?_⟩
  refine CallsIn.mono (n := _) (callsIn_wide.2 (mask_Zero _ (isW_wrap _) _)) ?_
  rintro e w4 ⟨rfl, rfl⟩
  rw [wu0 HR.out]
  have hx1 := HX1.out; have zB := (FB_3.out.alloc (.cells #[.int .u64 (msk (!decide (ori f g n = 0)))] 23)).cell 0 (v := .slice A n c) rfl
  gi_wp2_with fail
  try refine ⟨trivial, ?_⟩
  refine CallsIn.mono (n := _) (callsIn_wide.2 (polygon_edges A n c _)) ?_
  rintro e w5 ⟨rfl, rfl⟩
  clear zB hx1
  gi_wp2_with fail
  have HSZ := Lib.hid (show ((w3.alloc (.cells #[.int .u64 (msk (!decide (ori f g n = 0)))] 23)).alloc (.cells #[.slice A n c] 35)).heap.size = w3.heap.size + 1 + 1 from by simp)
  have hwx : Below w3.heap.size w3 ((w3.alloc (.cells #[.int .u64 (msk (!decide (ori f g n = 0)))] 23)).alloc (.cells #[.slice A n c] 35)) := below_al (below_al below_rf)
  have C0 := Lib.hid (show Below r.heap.size r ((w3.alloc (.cells #[.int .u64 (msk (!decide (ori f g n = 0)))] 23)).alloc (.cells #[.slice A n c] 35)) from below_al (below_al HB3.out))
  have BN := Lib.hid (show Bx ((w3.alloc (.cells #[.int .u64 (msk (!decide (ori f g n = 0)))] 23)).alloc (.cells #[.slice A n c] 35)) (w.heap.size) #[.pointer (some ⟨T, 0, none⟩)] 47 from FN_3.out.below hwx (Nat.le_refl _))
  have BB := Lib.hid (show Bx ((w3.alloc (.cells #[.int .u64 (msk (!decide (ori f g n = 0)))] 23)).alloc (.cells #[.slice A n c] 35)) (w.heap.size + 1) #[.slice A n c] 35 from FB_3.out.below hwx (Nat.le_refl _))
  have BS := Lib.hid (show Bx ((w3.alloc (.cells #[.int .u64 (msk (!decide (ori f g n = 0)))] 23)).alloc (.cells #[.slice A n c] 35)) (w2.heap.size) #[.int .i64 (ori f g n)] 2 from FS_3.out.below hwx (Nat.le_refl _))
  have BM := Lib.hid (show Bx ((w3.alloc (.cells #[.int .u64 (msk (!decide (ori f g n = 0)))] 23)).alloc (.cells #[.slice A n c] 35)) w3.heap.size #[.int .u64 (msk (valSt f g ([] : List (Fin n))))] 23 from (Bx.new w3 _ _).alloc _)
  have BV := Lib.hid (show Bx ((w3.alloc (.cells #[.int .u64 (msk (!decide (ori f g n = 0)))] 23)).alloc (.cells #[.slice A n c] 35)) (w3.heap.size + 1) #[.slice A n c] 35 from bx_new (by simp))
  have BK := Lib.hid (show TapeV r.heap.size nr ((w3.alloc (.cells #[.int .u64 (msk (!decide (ori f g n = 0)))] 23)).alloc (.cells #[.slice A n c] 35)) T m (valEvs n []) from FK_3.out.below hwx (Nat.le_refl _)); have BQ := Lib.hid (show QV T m nr w ((w3.alloc (.cells #[.int .u64 (msk (!decide (ori f g n = 0)))] 23)).alloc (.cells #[.slice A n c] 35)) from FQ_3.out.below hwx (Nat.le_refl _))
  clear hwx
  obtain ⟨W0, hW0⟩ : ∃ W0, ((w3.alloc (.cells #[.int .u64 (msk (!decide (ori f g n = 0)))] 23)).alloc (.cells #[.slice A n c] 35)) = W0 := ⟨_, rfl⟩
  rw [hW0] at HSZ C0 BN BB BS BM BV BK BQ ⊢; clear hW0
  have HMW := Lib.hid BK.out.ltm
  have HWW := Lib.hid (show w.heap.size ≤ W0.heap.size from by have h1 := HSZ.out; have h3 := HP2.out; have h4 := HS3.out; have h5 := HTL.out; have h6 := HRW.out; omega)
  refine wpIn_rangeFunc_ownH rfl (by omega) (gf := 85) (lb := #[.pointer (some ⟨w3.heap.size + 1, 0, none⟩)]) rfl trivial (enters_of Tryd.func85 (by kernel_rfl) rfl)
    (edges_stops 7 (w3.heap.size + 1) (by omega) r A n c f g RX.out W0 C0.out BV.out)
    KpE.trans (fun W l ob o' hl h hc hw => ⟨belowK_b (w := W0) C0.out.size W l ob o' hl h hc hw, World.putObj_heap_other (by have := HSZ.out; omega)⟩) (Below.refl _ _) (fun _ => rfl)
    (fun (pre : List (Fin n)) W => Bx W w.heap.size #[.pointer (some ⟨T, 0, none⟩)] 47 ∧ Bx W (w.heap.size + 1) #[.slice A n c] 35 ∧ Bx W w2.heap.size #[.int .i64 (ori f g n)] 2 ∧ Bx W w3.heap.size #[.int .u64 (msk (valSt f g pre))] 23 ∧ Bx W (w3.heap.size + 1) #[.slice A n c] 35 ∧ Below r.heap.size r W ∧ TapeV r.heap.size nr W T m (valEvs n pre) ∧ QV T m nr w W) (fun _ _ _ => False)
    (fun s X Y row hs hg hr => ⟨bx_grown hs.1 hg hr, bx_grown hs.2.1 hg hr, bx_grown hs.2.2.1 hg hr, bx_grown hs.2.2.2.1 hg hr, bx_grown hs.2.2.2.2.1 hg hr, ownFrom_below (β := Unit) (Nat.le_refl _) C0.out.size () X Y row hs.2.2.2.2.2.1 hg hr, hs.2.2.2.2.2.2.1.grown HMW.out hg hr, hs.2.2.2.2.2.2.2.grown HWW.out hg hr⟩)
    (fun _ _ _ _ _ hs _ _ => hs)
    ⟨BN.out, BB.out, BS.out, BM.out, BV.out, C0.out, BK.out, BQ.out⟩
    (fun (x1 : Fin n) a' W => ∃ Be, w3.heap.size + 1 + 1 ≤ Be ∧ Bx W Be #[.int .i64 ((x1 : Nat) : Int), .int .i64 (((x1 + 1) % n : Nat) : Int), .int .i64 (f x1), .int .i64 (g x1), .int .i64 (f ((x1 + 1) % n)), .int .i64 (g ((x1 + 1) % n))] 87 ∧ a' = { tmps := #[.pointer (some ⟨T, 0, none⟩), .slice A n c, .pointer (some ⟨w.heap.size, 0, none⟩), .pointer (some ⟨w.heap.size + 1, 0, none⟩), .int .u64 0, .pointer (some ⟨w2.heap.size, 0, none⟩), .pointer (some ⟨w3.heap.size, 0, none⟩), .pointer (some ⟨Be, 0, none⟩), undef, undef, .slice A n c, .int .i64 (ori f g n), .int .i64 (ori f g n), .int .u64 (IntKind.u64.wrap (ori f g n)), .int .u64 (msk (decide (ori f g n = 0))), .int .u64 (msk (!decide (ori f g n = 0))), .slice A n c, .func (.func 85) #[] #[.pointer (some ⟨w3.heap.size + 1, 0, none⟩)], edgeV f g n x1, undef, undef, undef, undef, undef, undef, undef, undef, undef, undef, undef, undef, undef, undef, undef, undef, undef, undef, undef, undef, undef, undef, undef, undef, undef, undef, undef, undef, undef, undef, undef, undef, undef, undef, undef, undef], defers := [] })
    (fun x1 a' _ X Y row hs hg hr => by obtain ⟨Be, h1, h2, h3⟩ := hs; exact ⟨Be, h1, bx_grown h2 hg hr, h3⟩) ?assign ?body ?done ?stop
  case stop => intro D cc pre W _ _ h _; exact h.elim
  case assign =>
    rintro l pre x1 W K ⟨i1, i2, i3, i4, i5, i6, i7, i8⟩ hK
    have H1 := Lib.hid i1; have H2 := Lib.hid i2; have H3 := Lib.hid i3; have H4 := Lib.hid i4; have H5 := Lib.hid i5; have H6 := Lib.hid i6; have H7 := Lib.hid i7; have H8 := Lib.hid i8
    have HK := Lib.hid hK; clear hK i1 i2 i3 i4 i5 i6 i7 i8
    have hed : edgeV f g n x1 = .agg #[.int .i64 ((x1 : Nat) : Int), .int .i64 (((x1 + 1) % n : Nat) : Int), .int .i64 (f x1), .int .i64 (g x1), .int .i64 (f ((x1 + 1) % n)), .int .i64 (g ((x1 + 1) % n))] := rfl
    gi_wp2_with fail
    exact HK.out _ _ ((KeepsOthers.alloc _ _).from _) ⟨(Below.refl _ _).alloc H6.out.size _, Below.heap_alloc _ _ _ H5.out.lt⟩ ⟨H1.out.alloc _, H2.out.alloc _, H3.out.alloc _, H4.out.alloc _, H5.out.alloc _, H6.out.alloc H6.out.size _, H7.out.below ((Below.refl _ _).alloc (Nat.le_refl _) _) (Nat.le_refl _), H8.out.below ((Below.refl _ _).alloc (Nat.le_refl _) _) (Nat.le_refl _)⟩ ⟨W.heap.size, H5.out.lt, Bx.new _ _ _, rfl⟩
  case done =>
    rintro D xs W hD hxs ⟨-, -, -, i1, -, i4, i8, i9⟩ hK
    have hxs' : xs = eds n := hxs
    subst hxs'
    have zO := i1.cell 0 (v := .int .u64 (msk (valSt f g (eds n)))) rfl
    have H4 := Lib.hid i4; have H8 := Lib.hid i8; have H9 := Lib.hid i9; have HK := Lib.hid hK; have HD := Lib.hid hD
    clear i1 i4 i8 i9 hK hD hxs
    rw [valSt_end] at zO
    gi_wp2_with fail
    refine ⟨by simp, .inl ⟨_, _, rfl, run_takeDeferred HK.out, ?_⟩⟩
    have hrD : ∀ r', some D = some r' → W0.heap.size ≤ r' ∧ ∃ o : Obj, W.heap[r']? = some o ∧ o.isCells = false := fun r' e => by cases e; exact ⟨HD.out, _, HK.out, rfl⟩
    exact ⟨_, results_tmp rfl _ _ _, rfl, H4.out.trans (belowK_b (w := W0) C0.out.size _ D _ _ HD.out HK.out rfl rfl), H8.out.grown HMW.out (grownBy_putObj' _ D _) hrD, H9.out.grown HWW.out (grownBy_putObj' _ D _) hrD⟩
  case body =>
    rintro l pre ⟨k, hk1⟩ a' W hl - ⟨i1, i2, i3, i4, i5, i6, i7, i8⟩ ⟨Be, hBe, bE, rfl⟩ hlen
    have hk2 : (k + 1) % n < n := Nat.mod_lt _ (by omega)
    have hss := Lib.hid (valSt_snoc f g pre ⟨k, hk1⟩)
    have hls := Lib.hid (valEvs_snoc pre ⟨k, hk1⟩)
    have HLEN := Lib.hid hlen
    have HE5 : Hid (Bx W Be #[.int .i64 (k : Int), .int .i64 (((k + 1) % n : Nat) : Int), .int .i64 (f k), .int .i64 (g k), .int .i64 (f ((k + 1) % n)), .int .i64 (g ((k + 1) % n))] 87) := Lib.hid bE
    have HN := Lib.hid i1; have HBv := Lib.hid i2; have HSb := Lib.hid i3; have H1 := Lib.hid i4; have H2 := Lib.hid i5; have H3 := Lib.hid i6; have H7 := Lib.hid i7; have H8 := Lib.hid i8; have HBE := Lib.hid hBe; clear i1 i2 i3 i4 i5 i6 i7 i8 bE hBe hl hlen
    simp only [show ((⟨k, hk1⟩ : Fin n) : Nat) = k from rfl] at hss hls
    have hedg : ∀ q, edg f g n k (f q) (g q) = det (f k) (g k) (f ((k + 1) % n)) (g ((k + 1) % n)) (f q) (g q) := fun _ => rfl
    have hsk : ∀ q, skip n k q = (decide (q = k) || decide (q = (k + 1) % n)) := fun _ => rfl
    generalize hK2 : (k + 1) % n = k2 at HE5 hk2 hedg hsk
    generalize valSt f g pre = o0 at H1 hss
    have HEDG := Lib.hid hedg; have HSK := Lib.hid hsk; clear hedg hsk hK2
    have zB := HBv.out.cell 0 (v := .slice A n c) rfl
    gi_wp2_with fail
    refine wpIn_scope_straight ?_
    refine wpIn_seq_k fun KL hKL => ?_
    refine wpIn_label ?_
    refine hKL _ _ ?_
    clear hKL KL
    gi_wp2_with fail
    clear zB
    gi_loopw [21] (fun j wr => ∃ q : Nat, q ≤ n ∧ j = .int .i64 (q : Int) ∧ Bx wr w.heap.size #[.pointer (some ⟨T, 0, none⟩)] 47 ∧ Bx wr (w.heap.size + 1) #[.slice A n c] 35 ∧ Bx wr w2.heap.size #[.int .i64 (ori f g n)] 2 ∧ Bx wr w3.heap.size #[.int .u64 (msk (o0 && allB (okAt f g n (ori f g n) k) q))] 23 ∧ Bx wr (w3.heap.size + 1) #[.slice A n c] 35 ∧ Bx wr Be #[.int .i64 (k : Int), .int .i64 (k2 : Int), .int .i64 (f k), .int .i64 (g k), .int .i64 (f k2), .int .i64 (g k2)] 87 ∧ Below r.heap.size r wr ∧ KeepsFrom W0.heap.size W wr ∧ TapeV r.heap.size nr wr T m (valEvs n pre ++ rowEv n k q) ∧ QV T m nr w wr) (fun j _ => n - (intOf j).toNat)
    case atStart => exact ⟨0, Nat.zero_le _, rfl, HN.out, HBv.out, HSb.out, by rw [allB, Bool.and_true]; exact H1.out, H2.out, HE5.out, H3.out, KeepsFrom.refl _ _, by rw [rowEv, List.append_nil]; exact H7.out, H8.out⟩
    case round =>
      obtain ⟨q, hq, rfl, jN, jB, jS, j1, j2, j3, j4, j5, j6, j7⟩ := hrel
      have JN := Lib.hid jN; have JB := Lib.hid jB; have JS := Lib.hid jS; have J1 := Lib.hid j1; have J2 := Lib.hid j2; have J3 := Lib.hid j3; have J4 := Lib.hid j4; have J5 := Lib.hid j5; have J6 := Lib.hid j6; have J7 := Lib.hid j7; clear jN jB jS j1 j2 j3 j4 j5 j6 j7
      by_cases hq1 : q < n
      · have hms := Lib.hid (meas_ hq1)
        have hpos := Lib.hid (show (.int .i64 ((q : Int) + 1) : Value) = .int .i64 ((q + 1 : Nat) : Int) from by simp)
        have hwq : wrap64 ((q : Int) + 1) = (q : Int) + 1 := by rw [← IntWalk.i64_left, IntKind.wrap_i64]; omega
        have hwq2 : IntKind.i64.wrap ((q : Int) + 1) = (q : Int) + 1 := by rw [IntKind.wrap_i64]; omega
        have hcap := Lib.hid (valEvs_cap (k := k) hn70 HLEN.out hq)
        obtain ⟨b, off, rfl, hpt⟩ := isIP3 (RX.out.below J4.out (Nat.le_refl _)) hq1
        have c1 := hpt.x; have c2 := hpt.y
        have e1 := (J3.out.alloc (.cells #[.int .i64 (f q), .int .i64 (g q)] 28)).cell 0 (v := .int .i64 (k : Int)) rfl
        have e2 := (J3.out.alloc (.cells #[.int .i64 (f q), .int .i64 (g q)] 28)).cell 1 (v := .int .i64 (k2 : Int)) rfl
        have eN := (JN.out.alloc (.cells #[.int .i64 (f q), .int .i64 (g q)] 28)).cell 0 (v := .pointer (some ⟨T, 0, none⟩)) rfl
        by_cases hskp : q = k ∨ q = k2
        · have hrq := Lib.hid (show (o0 && allB (okAt f g n (ori f g n) k) q) = (o0 && allB (okAt f g n (ori f g n) k) (q + 1)) from by
            rw [allB, show okAt f g n (ori f g n) k q = true from by unfold okAt; rw [HSK.out]; simp [hskp], Bool.and_true])
          have hrw := Lib.hid (show rowEv n k (q + 1) = rowEv n k q from by rw [rowEv, HSK.out, show (decide (q = k) || decide (q = k2)) = true from by simp [hskp], if_pos rfl, List.append_nil])
          rcases (by omega : q = k ∨ (q ≠ k ∧ q = k2)) with hqk | ⟨hqk, hqk2⟩
          · have hb1 : ((q : Int) == (k : Int)) = true := by simp; omega
            clear hskp hqk
            gi_wp2_with fail
            go_roundw
            case rel => exact ⟨q + 1, hq1, hpos.out, JN.out.alloc _, JB.out.alloc _, JS.out.alloc _, by rw [← hrq.out]; exact J1.out.alloc _, J2.out.alloc _, J3.out.alloc _, J4.out.alloc J4.out.size _, J5.out.trans ((KeepsOthers.alloc _ _).from _), by rw [hrw.out]; exact J6.out.below ((Below.refl _ _).alloc (Nat.le_refl _) _) (Nat.le_refl _), J7.out.below ((Below.refl _ _).alloc (Nat.le_refl _) _) (Nat.le_refl _)⟩
            case measure => exact hms.out
          · have hb1 : ((q : Int) == (k : Int)) = false := by simp; omega
            have hb3 : ((q : Int) == (k2 : Int)) = true := by simp; omega
            clear hskp hqk hqk2
            gi_wp2_with fail
            go_roundw
            case rel => exact ⟨q + 1, hq1, hpos.out, JN.out.alloc _, JB.out.alloc _, JS.out.alloc _, by rw [← hrq.out]; exact J1.out.alloc _, J2.out.alloc _, J3.out.alloc _, J4.out.alloc J4.out.size _, J5.out.trans ((KeepsOthers.alloc _ _).from _), by rw [hrw.out]; exact J6.out.below ((Below.refl _ _).alloc (Nat.le_refl _) _) (Nat.le_refl _), J7.out.below ((Below.refl _ _).alloc (Nat.le_refl _) _) (Nat.le_refl _)⟩
            case measure => exact hms.out
        · have hqk : ¬ (q = k) := fun h => hskp (.inl h)
          have hqk2 : ¬ (q = k2) := fun h => hskp (.inr h)
          have hrw := Lib.hid (show rowEv n k (q + 1) = rowEv n k q ++ [(4, (k : Int), (q : Int))] from by rw [rowEv, HSK.out, show (decide (q = k) || decide (q = k2)) = false from by simp [hqk, hqk2]]; rfl)
          clear hskp
          have hb1 : ((q : Int) == (k : Int)) = false := by simp; omega
          have hb3 : ((q : Int) == (k2 : Int)) = false := by simp; omega
          gi_wp2_with fail
          clear e1 e2 eN c1 c2 hpt hb1 hb3
          have hvq := Lib.hid (show (o0 && allB (okAt f g n (ori f g n) k) q && decide (sg (det (f k) (g k) (f k2) (g k2) (f q) (g q)) = ori f g n)) = (o0 && allB (okAt f g n (ori f g n) k) (q + 1)) from by
            rw [allB, show okAt f g n (ori f g n) k q = decide (sg (det (f k) (g k) (f k2) (g k2) (f q) (g q)) = ori f g n) from by unfold okAt; rw [HSK.out, HEDG.out]; simp [hqk, hqk2], Bool.and_assoc])
          have HP3 := Lib.hid (isIP RX.out hk1 hk2 hq1)
          have HEQ := Lib.hid (weq (sg_range (det (f k) (g k) (f k2) (g k2) (f q) (g q))) HR.out)
          obtain ⟨OB, hOB⟩ : ∃ OB, OB = Obj.cells #[.int .i64 (f q), .int .i64 (g q)] 28 := ⟨_, rfl⟩
          have M4 := Lib.hid (Bx.new wr #[.int .i64 (f q), .int .i64 (g q)] 28)
          rw [← hOB] at M4 ⊢
          have MN := Lib.hid (JN.out.alloc OB); have MB := Lib.hid (JB.out.alloc OB); have MS := Lib.hid (JS.out.alloc OB); have M1 := Lib.hid (J1.out.alloc OB); have M2 := Lib.hid (J2.out.alloc OB); have M3 := Lib.hid (J3.out.alloc OB)
          have C9 := Lib.hid (J4.out.alloc J4.out.size OB); have K9 := Lib.hid (J5.out.trans ((KeepsOthers.alloc wr OB).from W0.heap.size))
          have hal : Below wr.heap.size wr (wr.alloc OB) := (Below.refl _ _).alloc (Nat.le_refl _) _
          have M6 := Lib.hid (J6.out.below hal (Nat.le_refl _)); have M7 := Lib.hid (J7.out.below hal (Nat.le_refl _))
          have HLT := Lib.hid J3.out.lt
          clear hal JN JB JS J1 J2 J3 J4 J5 J6 J7 hqk hqk2 hOB
          generalize wr.alloc OB = wq at *
          have HAN := Lib.hid (and_msk (o0 && allB (okAt f g n (ori f g n) k) q) (decide (sg (det (f k) (g k) (f k2) (g k2) (f q) (g q)) = ori f g n)))
          try refine ⟨trivial, ?_⟩
          refine CallsIn.mono (n := _) (CallsIn.inRound l (callsIn_wide.2 (tape_NoteV r T m nr _ _ _ _ (by decide) _ M6.out C9.out hcap.out))) ?_
          rintro e w31 ⟨rfl, hb3, ht3, hq3⟩
          have C31 := Lib.hid hb3; have BK31 := Lib.hid ht3; have K31 := Lib.hid (K9.out.trans (hq3.ks _ HMW.out)); have BQ31 := Lib.hid (M7.out.trans hq3)
          clear C9 K9 M6 M7
          have BN31 := Lib.hid (hq3.bx _ _ _ (by decide) (show w.heap.size ≠ T from by have h1 := HSZ.out; have h3 := HP2.out; have h4 := HS3.out; have h5 := HTL.out; have h6 := HRW.out; have h2 := HBE.out; have h7 := HLT.out; omega) MN.out)
          clear MN
          have BB31 := Lib.hid (hq3.bx _ _ _ (by decide) (show w.heap.size + 1 ≠ T from by have h1 := HSZ.out; have h3 := HP2.out; have h4 := HS3.out; have h5 := HTL.out; have h6 := HRW.out; have h2 := HBE.out; have h7 := HLT.out; omega) MB.out)
          clear MB
          have BS31 := Lib.hid (hq3.bx _ _ _ (by decide) (show w2.heap.size ≠ T from by have h1 := HSZ.out; have h3 := HP2.out; have h4 := HS3.out; have h5 := HTL.out; have h6 := HRW.out; have h2 := HBE.out; have h7 := HLT.out; omega) MS.out)
          clear MS
          have BM31 := Lib.hid (hq3.bx _ _ _ (by decide) (show w3.heap.size ≠ T from by have h1 := HSZ.out; have h3 := HP2.out; have h4 := HS3.out; have h5 := HTL.out; have h6 := HRW.out; have h2 := HBE.out; have h7 := HLT.out; omega) M1.out)
          clear M1
          have BV31 := Lib.hid (hq3.bx _ _ _ (by decide) (show w3.heap.size + 1 ≠ T from by have h1 := HSZ.out; have h3 := HP2.out; have h4 := HS3.out; have h5 := HTL.out; have h6 := HRW.out; have h2 := HBE.out; have h7 := HLT.out; omega) M2.out)
          clear M2
          have BE31 := Lib.hid (hq3.bx _ _ _ (by decide) (show Be ≠ T from by have h1 := HSZ.out; have h3 := HP2.out; have h4 := HS3.out; have h5 := HTL.out; have h6 := HRW.out; have h2 := HBE.out; have h7 := HLT.out; omega) M3.out)
          clear M3
          have BP31 := Lib.hid (hq3.bx _ _ _ (by decide) (show wr.heap.size ≠ T from by have h1 := HSZ.out; have h3 := HP2.out; have h4 := HS3.out; have h5 := HTL.out; have h6 := HRW.out; have h2 := HBE.out; have h7 := HLT.out; omega) M4.out)
          clear M4
          clear hb3 ht3 hq3
          have FT_31 := Lib.hid (RT.out.below C31.out (Nat.le_refl _))
          have FX_31 := Lib.hid (RX.out.below C31.out (Nat.le_refl _))
          have FN_31 := BN31
          have FB_31 := BB31
          have FS_31 := BS31
          have FM_31 := BM31
          have FV_31 := BV31
          have FE_31 := BE31
          have FP_31 := BP31
          have FK_31 := BK31
          have FQ_31 := BQ31
          have HS31 := Lib.hid (Below.refl w31.heap.size w31)
          gi_wp2_with fail
          refine wpIn_region_any (by kernel_rfl) ?_
          change wpAnyIn _ _ _ _ _ _ _ _ _ (World.drew _)
          have RB31 := Lib.hid (below_drew0 w31)
          refine wpAnyIn_tail (WideF.round l) (fun a b => Below a.heap.size a b) (fun _ => below_rf) (fun _ _ _ h k => below_tr h k) [⟨0, 41, fun z_ _ => z_ = .int .u64 (msk (o0 && allB (okAt f g n (ori f g n) k) q))⟩, ⟨1, 42, fun z_ _ => z_ = .pointer (some ⟨Be, 2, none⟩)⟩, ⟨2, 43, fun z_ _ => z_ = .agg #[.int .i64 (f k), .int .i64 (g k)]⟩, ⟨3, 44, fun z_ _ => z_ = .pointer (some ⟨Be, 4, none⟩)⟩, ⟨4, 45, fun z_ _ => z_ = .agg #[.int .i64 (f k2), .int .i64 (g k2)]⟩, ⟨5, 46, fun z_ _ => z_ = .agg #[.int .i64 (f q), .int .i64 (g q)]⟩, ⟨6, 47, fun z_ _ => z_ = .int .i64 (sg (det (f k) (g k) (f k2) (g k2) (f q) (g q)))⟩, ⟨7, 48, fun z_ _ => z_ = .int .u64 (IntKind.u64.wrap (sg (det (f k) (g k) (f k2) (g k2) (f q) (g q))))⟩, ⟨8, 49, fun z_ _ => z_ = .int .i64 (ori f g n)⟩, ⟨9, 50, fun z_ _ => z_ = .int .u64 (IntKind.u64.wrap (ori f g n))⟩, ⟨10, 51, fun z_ _ => z_ = .int .u64 (msk (decide (sg (det (f k) (g k) (f k2) (g k2) (f q) (g q)) = ori f g n)))⟩, ⟨11, 52, fun z_ _ => z_ = .int .u64 (msk ((o0 && allB (okAt f g n (ori f g n) k) q) && decide (sg (det (f k) (g k) (f k2) (g k2) (f q) (g q)) = ori f g n)))⟩] 12 (by kernel_rfl) ?_ ?_ ?_
          · refine ⟨?_, ?_, ?_, ?_, ?_, ?_, ?_, ?_, ?_, ?_, ?_, ?_, trivial⟩
            all_goals (intro x w w' hb h; first | exact h | (obtain ⟨b_, h1, h2⟩ := h; exact ⟨b_, h1, h2.below hb (Nat.le_refl _)⟩))
          · refine ⟨?_, ?_, ?_, ?_, ?_, ?_, ?_, ?_, ?_, ?_, ?_, ?_, trivial⟩
            · intro a wz K hb ht hd hK
              have hbw := Lib.hid (below_tr RB31.out hb); clear hb
              have hx6 := (ht 6 rfl).trans rfl
              have es6 : a.tmps.getD 6 undef = _ := getD_of hx6; clear hx6
              clear ht hd
              have zc0 := (FM_31.out.below hbw.out (Nat.le_refl _)).cell 0 (v := .int .u64 (msk (o0 && allB (okAt f g n (ori f g n) k) q))) rfl
              have HK := Lib.hid hK; clear hK
              refine wpOpP_step (by simp only [List.getElem?_toArray, List.getElem?_cons_succ, List.getElem?_cons_zero]; rfl) (fun K' hK' => ?_)
              have HK' := Lib.hid hK'; clear hK'
              go_simp
              exact HK'.out _ _ (HK.out _ _ below_rf rfl)
            · intro a wz K hb ht hd hK
              have hbw := Lib.hid (below_tr RB31.out hb); clear hb
              have hx7 := (ht 7 rfl).trans rfl
              have es7 : a.tmps.getD 7 undef = _ := getD_of hx7; clear hx7
              clear ht hd
              have HK := Lib.hid hK; clear hK
              refine wpOpP_step (by simp only [List.getElem?_toArray, List.getElem?_cons_succ, List.getElem?_cons_zero]; rfl) (fun K' hK' => ?_)
              have HK' := Lib.hid hK'; clear hK'
              go_simp
              exact HK'.out _ _ (HK.out _ _ below_rf rfl)
            · intro a wz K hb ht hd hK
              have hbw := Lib.hid (below_tr RB31.out hb); clear hb
              obtain ⟨x42, hx42, hp42⟩ := hd 1 _ rfl (by kernel_rfl)
              obtain rfl := hp42
              have es42 : a.tmps.getD 42 undef = _ := getD_of hx42; clear hx42
              clear ht hd
              have zc0 := (FE_31.out.below hbw.out (Nat.le_refl _)).cell 2 (v := .int .i64 (f k)) rfl
              have zc1 := (FE_31.out.below hbw.out (Nat.le_refl _)).cell 3 (v := .int .i64 (g k)) rfl
              have HK := Lib.hid hK; clear hK
              refine wpOpP_step (by simp only [List.getElem?_toArray, List.getElem?_cons_succ, List.getElem?_cons_zero]; rfl) (fun K' hK' => ?_)
              have HK' := Lib.hid hK'; clear hK'
              go_simp
              exact HK'.out _ _ (HK.out _ _ below_rf rfl)
            · intro a wz K hb ht hd hK
              have hbw := Lib.hid (below_tr RB31.out hb); clear hb
              have hx7 := (ht 7 rfl).trans rfl
              have es7 : a.tmps.getD 7 undef = _ := getD_of hx7; clear hx7
              clear ht hd
              have HK := Lib.hid hK; clear hK
              refine wpOpP_step (by simp only [List.getElem?_toArray, List.getElem?_cons_succ, List.getElem?_cons_zero]; rfl) (fun K' hK' => ?_)
              have HK' := Lib.hid hK'; clear hK'
              go_simp
              exact HK'.out _ _ (HK.out _ _ below_rf rfl)
            · intro a wz K hb ht hd hK
              have hbw := Lib.hid (below_tr RB31.out hb); clear hb
              obtain ⟨x44, hx44, hp44⟩ := hd 3 _ rfl (by kernel_rfl)
              obtain rfl := hp44
              have es44 : a.tmps.getD 44 undef = _ := getD_of hx44; clear hx44
              clear ht hd
              have zc0 := (FE_31.out.below hbw.out (Nat.le_refl _)).cell 4 (v := .int .i64 (f k2)) rfl
              have zc1 := (FE_31.out.below hbw.out (Nat.le_refl _)).cell 5 (v := .int .i64 (g k2)) rfl
              have HK := Lib.hid hK; clear hK
              refine wpOpP_step (by simp only [List.getElem?_toArray, List.getElem?_cons_succ, List.getElem?_cons_zero]; rfl) (fun K' hK' => ?_)
              have HK' := Lib.hid hK'; clear hK'
              go_simp
              exact HK'.out _ _ (HK.out _ _ below_rf rfl)
            · intro a wz K hb ht hd hK
              have hbw := Lib.hid (below_tr RB31.out hb); clear hb
              have hx9 := (ht 9 rfl).trans rfl
              have es9 : a.tmps.getD 9 undef = _ := getD_of hx9; clear hx9
              clear ht hd
              have zc0 := (FP_31.out.below hbw.out (Nat.le_refl _)).cell 0 (v := .int .i64 (f q)) rfl
              have zc1 := (FP_31.out.below hbw.out (Nat.le_refl _)).cell 1 (v := .int .i64 (g q)) rfl
              have HK := Lib.hid hK; clear hK
              refine wpOpP_step (by simp only [List.getElem?_toArray, List.getElem?_cons_succ, List.getElem?_cons_zero]; rfl) (fun K' hK' => ?_)
              have HK' := Lib.hid hK'; clear hK'
              go_simp
              exact HK'.out _ _ (HK.out _ _ below_rf rfl)
            · intro a wz K hb ht hd hK
              have hbw := Lib.hid (below_tr RB31.out hb); clear hb
              obtain ⟨x43, hx43, hp43⟩ := hd 2 _ rfl (by kernel_rfl)
              obtain rfl := hp43
              have es43 : a.tmps.getD 43 undef = _ := getD_of hx43; clear hx43
              obtain ⟨x45, hx45, hp45⟩ := hd 4 _ rfl (by kernel_rfl)
              obtain rfl := hp45
              have es45 : a.tmps.getD 45 undef = _ := getD_of hx45; clear hx45
              obtain ⟨x46, hx46, hp46⟩ := hd 5 _ rfl (by kernel_rfl)
              obtain rfl := hp46
              have es46 : a.tmps.getD 46 undef = _ := getD_of hx46; clear hx46
              clear ht hd
              have HK := Lib.hid hK; clear hK
              refine wpOpP_step (by simp only [List.getElem?_toArray, List.getElem?_cons_succ, List.getElem?_cons_zero]; rfl) (fun K' hK' => ?_)
              have HK' := Lib.hid hK'; clear hK'
              go_simp
              refine (orient_Sign _ _ _ _ _ _ HP3.out _ (FT_31.out.below hbw.out (Nat.le_refl _))).mono ?_
              rintro e w1 ⟨rfl, B⟩
              go_wp2_with fail
              exact HK'.out _ _ (HK.out _ _ B rfl)
            · intro a wz K hb ht hd hK
              have hbw := Lib.hid (below_tr RB31.out hb); clear hb
              obtain ⟨x47, hx47, hp47⟩ := hd 6 _ rfl (by kernel_rfl)
              obtain rfl := hp47
              have es47 : a.tmps.getD 47 undef = _ := getD_of hx47; clear hx47
              clear ht hd
              have HK := Lib.hid hK; clear hK
              refine wpOpP_step (by simp only [List.getElem?_toArray, List.getElem?_cons_succ, List.getElem?_cons_zero]; rfl) (fun K' hK' => ?_)
              have HK' := Lib.hid hK'; clear hK'
              go_simp
              exact HK'.out _ _ (HK.out _ _ below_rf rfl)
            · intro a wz K hb ht hd hK
              have hbw := Lib.hid (below_tr RB31.out hb); clear hb
              have hx5 := (ht 5 rfl).trans rfl
              have es5 : a.tmps.getD 5 undef = _ := getD_of hx5; clear hx5
              clear ht hd
              have zc0 := (FS_31.out.below hbw.out (Nat.le_refl _)).cell 0 (v := .int .i64 (ori f g n)) rfl
              have HK := Lib.hid hK; clear hK
              refine wpOpP_step (by simp only [List.getElem?_toArray, List.getElem?_cons_succ, List.getElem?_cons_zero]; rfl) (fun K' hK' => ?_)
              have HK' := Lib.hid hK'; clear hK'
              go_simp
              exact HK'.out _ _ (HK.out _ _ below_rf rfl)
            · intro a wz K hb ht hd hK
              have hbw := Lib.hid (below_tr RB31.out hb); clear hb
              obtain ⟨x49, hx49, hp49⟩ := hd 8 _ rfl (by kernel_rfl)
              obtain rfl := hp49
              have es49 : a.tmps.getD 49 undef = _ := getD_of hx49; clear hx49
              clear ht hd
              have HK := Lib.hid hK; clear hK
              refine wpOpP_step (by simp only [List.getElem?_toArray, List.getElem?_cons_succ, List.getElem?_cons_zero]; rfl) (fun K' hK' => ?_)
              have HK' := Lib.hid hK'; clear hK'
              go_simp
              exact HK'.out _ _ (HK.out _ _ below_rf rfl)
            · intro a wz K hb ht hd hK
              have hbw := Lib.hid (below_tr RB31.out hb); clear hb
              obtain ⟨x48, hx48, hp48⟩ := hd 7 _ rfl (by kernel_rfl)
              obtain rfl := hp48
              have es48 : a.tmps.getD 48 undef = _ := getD_of hx48; clear hx48
              obtain ⟨x50, hx50, hp50⟩ := hd 9 _ rfl (by kernel_rfl)
              obtain rfl := hp50
              have es50 : a.tmps.getD 50 undef = _ := getD_of hx50; clear hx50
              clear ht hd
              have HK := Lib.hid hK; clear hK
              refine wpOpP_step (by simp only [List.getElem?_toArray, List.getElem?_cons_succ, List.getElem?_cons_zero]; rfl) (fun K' hK' => ?_)
              have HK' := Lib.hid hK'; clear hK'
              go_simp
              refine (mask_Equal _ _ (isW_wrap _) (isW_wrap _) _).mono ?_
              rintro e w1 ⟨rfl, rfl⟩
              rw [HEQ.out]
              go_wp2_with fail
              exact HK'.out _ _ (HK.out _ _ below_rf rfl)
            · intro a wz K hb ht hd hK
              have hbw := Lib.hid (below_tr RB31.out hb); clear hb
              obtain ⟨x41, hx41, hp41⟩ := hd 0 _ rfl (by kernel_rfl)
              obtain rfl := hp41
              have es41 : a.tmps.getD 41 undef = _ := getD_of hx41; clear hx41
              obtain ⟨x51, hx51, hp51⟩ := hd 10 _ rfl (by kernel_rfl)
              obtain rfl := hp51
              have es51 : a.tmps.getD 51 undef = _ := getD_of hx51; clear hx51
              clear ht hd
              have HK := Lib.hid hK; clear hK
              have e1 := HAN.out
              refine wpOpP_step (by simp only [List.getElem?_toArray, List.getElem?_cons_succ, List.getElem?_cons_zero]; rfl) (fun K' hK' => ?_)
              have HK' := Lib.hid hK'; clear hK'
              go_simp
              exact HK'.out _ _ (HK.out _ _ below_rf rfl)
          intro w32 X hb hv
          simp only [List.foldl_cons, List.foldl_nil, Act.put, List.setIfInBounds_toArray, List.set_cons_zero, List.set_cons_succ, List.toList_toArray, List.drop_succ_cons, List.drop_zero]
          obtain ⟨hv0, hv1, hv2, hv3, hv4, hv5, hv6, hv7, hv8, hv9, hv10, hv11, -⟩ := hv
          have hV0 : (fun z_ _ => z_ = .int .u64 (msk (o0 && allB (okAt f g n (ori f g n) k) q))) (X 41) w32 := hv0; clear hv0; have hv0 := hV0; clear hV0; generalize X 41 = X41 at *
          have hV1 : (fun z_ _ => z_ = .pointer (some ⟨Be, 2, none⟩)) (X 42) w32 := hv1; clear hv1; have hv1 := hV1; clear hV1; generalize X 42 = X42 at *
          have hV2 : (fun z_ _ => z_ = .agg #[.int .i64 (f k), .int .i64 (g k)]) (X 43) w32 := hv2; clear hv2; have hv2 := hV2; clear hV2; generalize X 43 = X43 at *
          have hV3 : (fun z_ _ => z_ = .pointer (some ⟨Be, 4, none⟩)) (X 44) w32 := hv3; clear hv3; have hv3 := hV3; clear hV3; generalize X 44 = X44 at *
          have hV4 : (fun z_ _ => z_ = .agg #[.int .i64 (f k2), .int .i64 (g k2)]) (X 45) w32 := hv4; clear hv4; have hv4 := hV4; clear hV4; generalize X 45 = X45 at *
          have hV5 : (fun z_ _ => z_ = .agg #[.int .i64 (f q), .int .i64 (g q)]) (X 46) w32 := hv5; clear hv5; have hv5 := hV5; clear hV5; generalize X 46 = X46 at *
          have hV6 : (fun z_ _ => z_ = .int .i64 (sg (det (f k) (g k) (f k2) (g k2) (f q) (g q)))) (X 47) w32 := hv6; clear hv6; have hv6 := hV6; clear hV6; generalize X 47 = X47 at *
          have hV7 : (fun z_ _ => z_ = .int .u64 (IntKind.u64.wrap (sg (det (f k) (g k) (f k2) (g k2) (f q) (g q))))) (X 48) w32 := hv7; clear hv7; have hv7 := hV7; clear hV7; generalize X 48 = X48 at *
          have hV8 : (fun z_ _ => z_ = .int .i64 (ori f g n)) (X 49) w32 := hv8; clear hv8; have hv8 := hV8; clear hV8; generalize X 49 = X49 at *
          have hV9 : (fun z_ _ => z_ = .int .u64 (IntKind.u64.wrap (ori f g n))) (X 50) w32 := hv9; clear hv9; have hv9 := hV9; clear hV9; generalize X 50 = X50 at *
          have hV10 : (fun z_ _ => z_ = .int .u64 (msk (decide (sg (det (f k) (g k) (f k2) (g k2) (f q) (g q)) = ori f g n)))) (X 51) w32 := hv10; clear hv10; have hv10 := hV10; clear hV10; generalize X 51 = X51 at *
          have hV11 : (fun z_ _ => z_ = .int .u64 (msk ((o0 && allB (okAt f g n (ori f g n) k) q) && decide (sg (det (f k) (g k) (f k2) (g k2) (f q) (g q)) = ori f g n)))) (X 52) w32 := hv11; clear hv11; have hv11 := hV11; clear hV11; generalize X 52 = X52 at *
          obtain rfl := hv0
          obtain rfl := hv1
          obtain rfl := hv2
          obtain rfl := hv3
          obtain rfl := hv4
          obtain rfl := hv5
          obtain rfl := hv6
          obtain rfl := hv7
          obtain rfl := hv8
          obtain rfl := hv9
          obtain rfl := hv10
          obtain rfl := hv11
          have RC := Lib.hid (below_tr RB31.out hb); clear hb
          have FT_32 := Lib.hid (FT_31.out.below RC.out (Nat.le_refl _))
          have FX_32 := Lib.hid (FX_31.out.below RC.out (Nat.le_refl _))
          have FN_32 := Lib.hid (FN_31.out.below RC.out (Nat.le_refl _))
          have FB_32 := Lib.hid (FB_31.out.below RC.out (Nat.le_refl _))
          have FS_32 := Lib.hid (FS_31.out.below RC.out (Nat.le_refl _))
          have FM_32 := Lib.hid (FM_31.out.below RC.out (Nat.le_refl _))
          have FV_32 := Lib.hid (FV_31.out.below RC.out (Nat.le_refl _))
          have FE_32 := Lib.hid (FE_31.out.below RC.out (Nat.le_refl _))
          have FP_32 := Lib.hid (FP_31.out.below RC.out (Nat.le_refl _))
          have FK_32 := Lib.hid (FK_31.out.below RC.out (Nat.le_refl _))
          have FQ_32 := Lib.hid (FQ_31.out.below RC.out (Nat.le_refl _))
          have HB32 := Lib.hid (HS31.out.trans (RC.out.mono HS31.out.size))
          clear HS31 FT_31 FX_31 FN_31 FB_31 FS_31 FM_31 FV_31 FE_31 FP_31 FK_31 FQ_31 RB31
          have C33 := Lib.hid (C31.out.trans (HB32.out.mono C31.out.size)); have K33 := Lib.hid (K31.out.trans ((keeps_below HB32.out).from _))
          clear C31 K31
          have BN33 := FN_32
          clear BN31
          have BB33 := FB_32
          clear BB31
          have BS33 := FS_32
          clear BS31
          have BM33 := FM_32
          clear BM31
          have BV33 := FV_32
          clear BV31
          have BE33 := FE_32
          clear BE31
          have BP33 := FP_32
          clear BP31
          have BK33 := FK_32
          clear BK31
          have BQ33 := FQ_32
          clear BQ31
          clear HB32 FT_32 FX_32 FN_32 FB_32 FS_32 FM_32 FV_32 FE_32 FP_32 FK_32 FQ_32
          have zO := BM33.out.cell 0 (v := .int .u64 (msk (o0 && allB (okAt f g n (ori f g n) k) q))) rfl; have zF := BM33.out.free 0; have zL := BM33.out.lt
          gi_wp2_with fail
          clear zO zF zL
          have C34 := Lib.hid (show Below r.heap.size r (w32.setCell ⟨w3.heap.size, 0, none⟩ (.int .u64 (msk ((o0 && allB (okAt f g n (ori f g n) k) q) && decide (sg (det (f k) (g k) (f k2) (g k2) (f q) (g q)) = ori f g n))))) from C33.out.setCell (p := ⟨w3.heap.size, 0, none⟩) (show r.heap.size ≤ w3.heap.size from by have h1 := HSZ.out; have h3 := HP2.out; have h4 := HS3.out; have h5 := HTL.out; have h6 := HRW.out; have h2 := HBE.out; have h7 := HLT.out; omega) _); have K34 := Lib.hid (show KeepsFrom _ _ (w32.setCell ⟨w3.heap.size, 0, none⟩ (.int .u64 (msk ((o0 && allB (okAt f g n (ori f g n) k) q) && decide (sg (det (f k) (g k) (f k2) (g k2) (f q) (g q)) = ori f g n))))) from K33.out.trans ((KeepsOthers.setCell _ _ _).from _))
          have BK34 := Lib.hid (show TapeV r.heap.size nr (w32.setCell ⟨w3.heap.size, 0, none⟩ (.int .u64 (msk ((o0 && allB (okAt f g n (ori f g n) k) q) && decide (sg (det (f k) (g k) (f k2) (g k2) (f q) (g q)) = ori f g n))))) T m _ from BK33.out.store BM33.out (by decide) (show w3.heap.size ≠ T from by have h1 := HSZ.out; have h3 := HP2.out; have h4 := HS3.out; have h5 := HTL.out; have h6 := HRW.out; have h2 := HBE.out; have h7 := HLT.out; omega) _); have BQ34 := Lib.hid (show QV T m nr w (w32.setCell ⟨w3.heap.size, 0, none⟩ (.int .u64 (msk ((o0 && allB (okAt f g n (ori f g n) k) q) && decide (sg (det (f k) (g k) (f k2) (g k2) (f q) (g q)) = ori f g n))))) from BQ33.out.store (show w.heap.size ≤ w3.heap.size from by have h1 := HSZ.out; have h3 := HP2.out; have h4 := HS3.out; have h5 := HTL.out; have h6 := HRW.out; have h2 := HBE.out; have h7 := HLT.out; omega) _)
          clear C33 K33 BK33 BQ33
          have BN34 := Lib.hid (show Bx (w32.setCell ⟨w3.heap.size, 0, none⟩ (.int .u64 (msk ((o0 && allB (okAt f g n (ori f g n) k) q) && decide (sg (det (f k) (g k) (f k2) (g k2) (f q) (g q)) = ori f g n))))) (w.heap.size) #[.pointer (some ⟨T, 0, none⟩)] 47 from BN33.out.other _ (show w.heap.size ≠ w3.heap.size from by have h1 := HSZ.out; have h3 := HP2.out; have h4 := HS3.out; have h5 := HTL.out; have h6 := HRW.out; have h2 := HBE.out; have h7 := HLT.out; omega))
          clear BN33
          have BB34 := Lib.hid (show Bx (w32.setCell ⟨w3.heap.size, 0, none⟩ (.int .u64 (msk ((o0 && allB (okAt f g n (ori f g n) k) q) && decide (sg (det (f k) (g k) (f k2) (g k2) (f q) (g q)) = ori f g n))))) (w.heap.size + 1) #[.slice (some ⟨b, off, none⟩) n c] 35 from BB33.out.other _ (show w.heap.size + 1 ≠ w3.heap.size from by have h1 := HSZ.out; have h3 := HP2.out; have h4 := HS3.out; have h5 := HTL.out; have h6 := HRW.out; have h2 := HBE.out; have h7 := HLT.out; omega))
          clear BB33
          have BS34 := Lib.hid (show Bx (w32.setCell ⟨w3.heap.size, 0, none⟩ (.int .u64 (msk ((o0 && allB (okAt f g n (ori f g n) k) q) && decide (sg (det (f k) (g k) (f k2) (g k2) (f q) (g q)) = ori f g n))))) (w2.heap.size) #[.int .i64 (ori f g n)] 2 from BS33.out.other _ (show w2.heap.size ≠ w3.heap.size from by have h1 := HSZ.out; have h3 := HP2.out; have h4 := HS3.out; have h5 := HTL.out; have h6 := HRW.out; have h2 := HBE.out; have h7 := HLT.out; omega))
          clear BS33
          have BM34 := Lib.hid (show Bx (w32.setCell ⟨w3.heap.size, 0, none⟩ (.int .u64 (msk ((o0 && allB (okAt f g n (ori f g n) k) q) && decide (sg (det (f k) (g k) (f k2) (g k2) (f q) (g q)) = ori f g n))))) (w3.heap.size) #[.int .u64 (msk ((o0 && allB (okAt f g n (ori f g n) k) q) && decide (sg (det (f k) (g k) (f k2) (g k2) (f q) (g q)) = ori f g n)))] 23 from BM33.out.set 0 _)
          clear BM33
          have BV34 := Lib.hid (show Bx (w32.setCell ⟨w3.heap.size, 0, none⟩ (.int .u64 (msk ((o0 && allB (okAt f g n (ori f g n) k) q) && decide (sg (det (f k) (g k) (f k2) (g k2) (f q) (g q)) = ori f g n))))) (w3.heap.size + 1) #[.slice (some ⟨b, off, none⟩) n c] 35 from BV33.out.other _ (show w3.heap.size + 1 ≠ w3.heap.size from by have h1 := HSZ.out; have h3 := HP2.out; have h4 := HS3.out; have h5 := HTL.out; have h6 := HRW.out; have h2 := HBE.out; have h7 := HLT.out; omega))
          clear BV33
          have BE34 := Lib.hid (show Bx (w32.setCell ⟨w3.heap.size, 0, none⟩ (.int .u64 (msk ((o0 && allB (okAt f g n (ori f g n) k) q) && decide (sg (det (f k) (g k) (f k2) (g k2) (f q) (g q)) = ori f g n))))) (Be) #[.int .i64 (k : Int), .int .i64 (k2 : Int), .int .i64 (f k), .int .i64 (g k), .int .i64 (f k2), .int .i64 (g k2)] 87 from BE33.out.other _ (show Be ≠ w3.heap.size from by have h1 := HSZ.out; have h3 := HP2.out; have h4 := HS3.out; have h5 := HTL.out; have h6 := HRW.out; have h2 := HBE.out; have h7 := HLT.out; omega))
          clear BE33
          have BP34 := Lib.hid (show Bx (w32.setCell ⟨w3.heap.size, 0, none⟩ (.int .u64 (msk ((o0 && allB (okAt f g n (ori f g n) k) q) && decide (sg (det (f k) (g k) (f k2) (g k2) (f q) (g q)) = ori f g n))))) (wr.heap.size) #[.int .i64 (f q), .int .i64 (g q)] 28 from BP33.out.other _ (show wr.heap.size ≠ w3.heap.size from by have h1 := HSZ.out; have h3 := HP2.out; have h4 := HS3.out; have h5 := HTL.out; have h6 := HRW.out; have h2 := HBE.out; have h7 := HLT.out; omega))
          clear BP33
          generalize (w32.setCell ⟨w3.heap.size, 0, none⟩ (.int .u64 (msk ((o0 && allB (okAt f g n (ori f g n) k) q) && decide (sg (det (f k) (g k) (f k2) (g k2) (f q) (g q)) = ori f g n))))) = w34 at *
          go_roundw
          case rel => exact ⟨q + 1, hq1, hpos.out, BN34.out, BB34.out, BS34.out, by rw [← hvq.out]; exact BM34.out, BV34.out, BE34.out, C34.out, K34.out, by rw [hrw.out, ← List.append_assoc]; exact BK34.out, BQ34.out⟩
          case measure => exact hms.out
      · have hqn : q = n := by omega
        rw [hqn] at J1 J6
        gi_wp2_with fail
        refine ⟨J5.out, ⟨below_diff H3.out J4.out J5.out.size, (show _ = _ from J2.out).trans (show _ = _ from H2.out).symm⟩, ?_⟩
        dsimp only; rw [hss.out, hls.out]
        exact ⟨JN.out, JB.out, JS.out, J1.out, J2.out, J4.out, J6.out, J7.out⟩
end Go.Proofs.YtoikcgmdlccdbaaDoor
