/- The contract of polygon.Locate, without a tape. Contracts of the reference of layer 14. -/
import Derived.Test.YtjdiilkljgljkaaGreatDoorMf
import Derived.Test.YtjdiilkljgljkaaGreatDoorMe
import Derived.LoopTactic
namespace Go.Proofs.YtjdiilkljgljkaaGreatDoor
set_option linter.unusedVariables false
set_option linter.unusedSimpArgs false
open Go.RowKit Wd Go.Shelf
attribute [local go_sem] Oper.semAt_some

theorem bx_grown {W W' : World} {row : Option Nat} {b B : Nat} {cs : Array Value} {t : TypeId} (h : Bx W b cs t) (hg : W.grownBy W' row) (hr : ∀ r, row = some r → B ≤ r ∧ ∃ o : Obj, W.heap[r]? = some o ∧ o.isCells = false) : Bx W' b cs t :=
  (hg.block b h.lt (fun e => by obtain ⟨_, o, ho, hc⟩ := hr b e.symm; rw [show W.heap[b]? = _ from h] at ho; cases ho; cases hc)).trans h
theorem below_diff {m : Nat} {r W W' : World} (h : Below m r W) (h' : Below m r W') (hs : W.heap.size ≤ W'.heap.size) : Below m W W' :=
  ⟨h'.os.trans h.os.symm, h'.tape.trans h.tape.symm, h'.output.trans h.output.symm, hs, fun k hk => (h'.block k hk).trans (h.block k hk).symm⟩
theorem keeps_below {W W' : World} (h : Below W.heap.size W W') : KeepsOthers W W' :=
  ⟨h.size, fun k o hk _ => (h.block k (Array.getElem?_eq_some_iff.1 hk).1).trans hk⟩
theorem or_msk (a b : Bool) : bits .or .u64 (msk a) (msk b) = msk (a || b) := by cases a <;> cases b <;> rfl
theorem and_msk (a b : Bool) : bits .and .u64 (msk a) (msk b) = msk (a && b) := by cases a <;> cases b <;> rfl
theorem wu0 {x : Int} (h : x = -1 ∨ x = 0 ∨ x = 1) : decide (IntKind.u64.wrap x = 0) = decide (x = 0) := by
  rcases h with rfl | rfl | rfl <;> rfl
/-- outside and boundary, the edges pre having come -/
def locSt (q : Nat → Int) {n : Nat} (pre : List (Fin n)) : Bool × Bool := pre.foldl (fun (p : Bool × Bool) (i : Fin n) => ((if (i : Nat) = 0 then false else p.1) || decide (q (i : Nat) < 0), p.2 || decide (q (i : Nat) = 0))) (true, false)
theorem locSt_snoc (q : Nat → Int) {n : Nat} (pre : List (Fin n)) (i : Fin n) : locSt q (pre ++ [i]) = ((if (i : Nat) = 0 then false else (locSt q pre).1) || decide (q i < 0), (locSt q pre).2 || decide (q i = 0)) := by
  unfold locSt; rw [List.foldl_append]; rfl
theorem locSt_fup (q : Nat → Int) {n : Nat} : ∀ k, k < n → locSt q (fup n (k + 1)) = (anyB (fun i => decide (q i < 0)) (k + 1), anyB (fun i => decide (q i = 0)) (k + 1))
  | 0, h => by rw [fup_succ h, locSt_snoc]; rfl
  | k + 1, h => by
    rw [fup_succ h, locSt_snoc, locSt_fup q k (by omega)]
    simp [anyB]
theorem locSt_end (f g : Nat → Int) (n : Nat) (x y : Int) : sgnM (locSt (sideP f g n x y) (eds n)).1 (locSt (sideP f g n x y) (eds n)).2 = locP f g n x y := by
  unfold eds locP
  by_cases h : inP n
  · have h3 := h.1
    rw [if_pos h, if_pos h]
    have := locSt_fup (sideP f g n x y) (n := n) (n - 1) (by omega)
    rw [show n - 1 + 1 = n by omega] at this
    rw [this]
  · rw [if_neg h, if_neg h]; rfl
set_option maxRecDepth 100000 in
set_option maxHeartbeats 8000000 in
theorem polygon_Locate (A : Option Addr) (n c : Nat) (f g : Nat → Int) (x y : Int) (hx : IsI x) (hy : IsI y) (w : World) (hT : TabM w) (hp : Pts w A n c f g) :
    Calls Tryz.prog 162 #[.pointer none, .slice A n c, .agg #[.int .i64 x, .int .i64 y]] w fun e w' => e = .returned (.int .i64 (locP f g n x y)) ∧ Below w.heap.size w w' := by
  have hm := Nat.le_trans hp.cap hp.max
  have FT := Lib.hid hT; have FX := Lib.hid hp; clear hT hp
  have HB0 := Lib.hid (Below.refl w.heap.size w)
  refine (callsIn_wide (n := 8)).1 ?_
  refine callsIn_of_wp_marks Tryz.func162 rfl trivial ?_ rfl
  simp only [Tryz.ntmps162, List.size_toArray, List.length_cons, List.length_nil, Nat.reduceAdd, Nat.reduceSub, Array.replicate_succ, Array.replicate_zero, List.push_toArray, List.append_toArray, List.nil_append, List.cons_append]
  gi_wp2_with fail
  have B : Below w.heap.size w ((w.alloc (.cells #[.pointer none] 98)).alloc (.cells #[.int .i64 x, .int .i64 y] 23)) := ((HB0.out.alloc HB0.out.size _).alloc (HB0.out.alloc HB0.out.size _).size _)
  have C : Below w.heap.size w ((w.alloc (.cells #[.pointer none] 98)).alloc (.cells #[.int .i64 x, .int .i64 y] 23)) := (((Below.refl w.heap.size w).alloc (Nat.le_refl _) _).alloc (by simp; try omega) _)
  have X0 : Bx ((w.alloc (.cells #[.pointer none] 98)).alloc (.cells #[.int .i64 x, .int .i64 y] 23)) (w.heap.size) #[.pointer none] 98 := by simpa using ((Bx.new w #[.pointer none] 98).alloc _)
  have X1 : Bx ((w.alloc (.cells #[.pointer none] 98)).alloc (.cells #[.int .i64 x, .int .i64 y] 23)) (w.heap.size + 1) #[.int .i64 x, .int .i64 y] 23 := by simpa using (Bx.new (w.alloc (.cells #[.pointer none] 98)) #[.int .i64 x, .int .i64 y] 23)
  have FT_1 := Lib.hid (FT.out.below C (Nat.le_refl _))
  have FX_1 := Lib.hid (FX.out.below C (Nat.le_refl _))
  have HB1 := Lib.hid B
  have FN_1 := Lib.hid X0
  have FP_1 := Lib.hid X1
  clear B C X0 X1 HB0 FT FX
  generalize ((w.alloc (.cells #[.pointer none] 98)).alloc (.cells #[.int .i64 x, .int .i64 y] 23)) = w1 at *
  skip
  try refine ⟨trivial, ?_⟩
  refine CallsIn.mono (n := _) (callsIn_wide.2 (polygon_Orientation _ n c f g _ FT_1.out FX_1.out)) ?_
  rintro e w2 ⟨rfl, B⟩
  have HB2 := Lib.hid (HB1.out.trans (B.mono HB1.out.size))
  have FT_2 := Lib.hid (FT_1.out.below B (Nat.le_refl _))
  have FX_2 := Lib.hid (FX_1.out.below B (Nat.le_refl _))
  have FN_2 := Lib.hid (FN_1.out.below B (Nat.le_refl _))
  have FP_2 := Lib.hid (FP_1.out.below B (Nat.le_refl _))
  clear B  HB1 FT_1 FX_1 FN_1 FP_1
  gi_wp2_with fail
  have B : Below w.heap.size w (w2.alloc (.cells #[.int .i64 (ori f g n)] 2)) := (HB2.out.alloc HB2.out.size _)
  have C : Below w2.heap.size w2 (w2.alloc (.cells #[.int .i64 (ori f g n)] 2)) := ((Below.refl w2.heap.size w2).alloc (Nat.le_refl _) _)
  have X0 : Bx (w2.alloc (.cells #[.int .i64 (ori f g n)] 2)) (w2.heap.size) #[.int .i64 (ori f g n)] 2 := by simpa using (Bx.new w2 #[.int .i64 (ori f g n)] 2)
  have FT_3 := Lib.hid (FT_2.out.below C (Nat.le_refl _))
  have FX_3 := Lib.hid (FX_2.out.below C (Nat.le_refl _))
  have FN_3 := Lib.hid (FN_2.out.below C (Nat.le_refl _))
  have FP_3 := Lib.hid (FP_2.out.below C (Nat.le_refl _))
  have HB3 := Lib.hid B
  have FS_3 := Lib.hid X0
  clear B C X0 HB2 FT_2 FX_2 FN_2 FP_2
  generalize (w2.alloc (.cells #[.int .i64 (ori f g n)] 2)) = w3 at *
  skip
  try refine ⟨trivial, ?_⟩
  refine CallsIn.mono (n := _) (callsIn_wide.2 (mask_Of 1 (by unfold IsW; omega) _)) ?_
  rintro e w4 ⟨rfl, rfl⟩
  rw [show decide ((1 : Int) % 2 = 1) = true from rfl]
  gi_wp2_with fail
  try refine ⟨trivial, ?_⟩
  refine CallsIn.mono (n := _) (callsIn_wide.2 (polygon_edges A n c _)) ?_
  rintro e w5 ⟨rfl, rfl⟩
  gi_wp2_with fail
  have HSZ := Lib.hid (show (((w3.alloc (.cells #[.int .u64 (msk true)] 61)).alloc (.cells #[.int .u64 0] 61)).alloc (.cells #[.slice A n c] 29)).heap.size = w3.heap.size + 1 + 1 + 1 from by simp)
  have C0 := Lib.hid (show Below w3.heap.size w3 (((w3.alloc (.cells #[.int .u64 (msk true)] 61)).alloc (.cells #[.int .u64 0] 61)).alloc (.cells #[.slice A n c] 29)) from below_al (below_al (below_al below_rf)))
  have BO := Lib.hid (show Bx (((w3.alloc (.cells #[.int .u64 (msk true)] 61)).alloc (.cells #[.int .u64 0] 61)).alloc (.cells #[.slice A n c] 29)) w3.heap.size #[.int .u64 (msk (locSt (sideP f g n x y) ([] : List (Fin n))).1)] 61 from ((Bx.new w3 _ _).alloc _).alloc _)
  have BD := Lib.hid (show Bx (((w3.alloc (.cells #[.int .u64 (msk true)] 61)).alloc (.cells #[.int .u64 0] 61)).alloc (.cells #[.slice A n c] 29)) (w3.heap.size + 1) #[.int .u64 (msk (locSt (sideP f g n x y) ([] : List (Fin n))).2)] 61 from (bx_new (by simp)).alloc _)
  have BV := Lib.hid (show Bx (((w3.alloc (.cells #[.int .u64 (msk true)] 61)).alloc (.cells #[.int .u64 0] 61)).alloc (.cells #[.slice A n c] 29)) (w3.heap.size + 1 + 1) #[.slice A n c] 29 from bx_new (by simp))
  obtain ⟨W0, hW0⟩ : ∃ W0, (((w3.alloc (.cells #[.int .u64 (msk true)] 61)).alloc (.cells #[.int .u64 0] 61)).alloc (.cells #[.slice A n c] 29)) = W0 := ⟨_, rfl⟩
  rw [hW0] at HSZ C0 BO BD BV ⊢; clear hW0
  refine wpIn_rangeFunc_ownH rfl (by omega) (gf := 175) (lb := #[.pointer (some ⟨w3.heap.size + 1 + 1, 0, none⟩)]) rfl trivial (enters_of Tryz.func175 (by kernel_rfl) rfl)
    (edges_stops 7 (w3.heap.size + 1 + 1) (by omega) w3 A n c f g FX_3.out W0 C0.out BV.out)
    KpE.trans (fun W l ob o' hl h hc hw => ⟨belowK_b (w := W0) C0.out.size W l ob o' hl h hc hw, World.putObj_heap_other (by have := HSZ.out; omega)⟩) (Below.refl _ _) (fun _ => rfl)
    (fun (pre : List (Fin n)) W => Bx W w3.heap.size #[.int .u64 (msk (locSt (sideP f g n x y) pre).1)] 61 ∧ Bx W (w3.heap.size + 1) #[.int .u64 (msk (locSt (sideP f g n x y) pre).2)] 61 ∧ Bx W (w3.heap.size + 1 + 1) #[.slice A n c] 29 ∧ Below w3.heap.size w3 W) (fun _ _ _ => False)
    (fun s X Y row hs hg hr => ⟨bx_grown hs.1 hg hr, bx_grown hs.2.1 hg hr, bx_grown hs.2.2.1 hg hr, ownFrom_below (β := Unit) (Nat.le_refl _) C0.out.size () X Y row hs.2.2.2 hg hr⟩)
    (fun _ _ _ _ _ hs _ _ => hs)
    ⟨BO.out, BD.out, BV.out, C0.out⟩
    (fun (x1 : Fin n) a' W => ∃ Be, w3.heap.size + 1 + 1 + 1 ≤ Be ∧ Bx W Be #[.int .i64 ((x1 : Nat) : Int), .int .i64 (((x1 + 1) % n : Nat) : Int), .int .i64 (f x1), .int .i64 (g x1), .int .i64 (f ((x1 + 1) % n)), .int .i64 (g ((x1 + 1) % n))] 245 ∧ a' = { tmps := #[.pointer none, .slice A n c, .agg #[.int .i64 x, .int .i64 y], .pointer (some ⟨w.heap.size, 0, none⟩), undef, .pointer (some ⟨w.heap.size + 1, 0, none⟩), .int .i64 0, .pointer (some ⟨w2.heap.size, 0, none⟩), .pointer (some ⟨w3.heap.size, 0, none⟩), .pointer (some ⟨w3.heap.size + 1, 0, none⟩), .pointer (some ⟨Be, 0, none⟩), undef, .slice A n c, .int .i64 (ori f g n), .int .u64 (msk true), .slice A n c, .func (.func 175) #[] #[.pointer (some ⟨w3.heap.size + 1 + 1, 0, none⟩)], edgeV f g n x1, undef, undef, undef, undef, undef, undef, undef, undef, undef, undef, undef, undef, undef, undef, undef, undef, undef, undef, undef, undef, undef, undef, undef, undef, undef, undef, undef], defers := [] })
    (fun x1 a' _ X Y row hs hg hr => by obtain ⟨Be, h1, h2, h3⟩ := hs; exact ⟨Be, h1, bx_grown h2 hg hr, h3⟩) ?assign ?body ?done ?stop
  case stop => intro D cc pre W _ _ h _; exact h.elim
  case assign =>
    rintro l pre x1 W K ⟨i1, i2, i3, i4⟩ hK
    have H1 := Lib.hid i1; have H2 := Lib.hid i2; have H3 := Lib.hid i3; have H4 := Lib.hid i4
    have HK := Lib.hid hK; clear hK i1 i2 i3 i4
    have hed : edgeV f g n x1 = .agg #[.int .i64 ((x1 : Nat) : Int), .int .i64 (((x1 + 1) % n : Nat) : Int), .int .i64 (f x1), .int .i64 (g x1), .int .i64 (f ((x1 + 1) % n)), .int .i64 (g ((x1 + 1) % n))] := rfl
    gi_wp2_with fail
    exact HK.out _ _ ((KeepsOthers.alloc _ _).from _) ⟨(Below.refl _ _).alloc H4.out.size _, Below.heap_alloc _ _ _ H3.out.lt⟩ ⟨H1.out.alloc _, H2.out.alloc _, H3.out.alloc _, H4.out.alloc H4.out.size _⟩ ⟨W.heap.size, H3.out.lt, Bx.new _ _ _, rfl⟩
  case body =>
    rintro l pre ⟨k, hk1⟩ a' W hl - ⟨i1, i2, i3, i4⟩ ⟨Be, hBe, bE, rfl⟩ hlen
    have hk2 : (k + 1) % n < n := Nat.mod_lt _ (by omega)
    have hp3 := isIP2 FX_3.out hk1 hk2 hx hy
    have hsd := sideP_range f g n x y k
    have hss := Lib.hid (locSt_snoc (sideP f g n x y) pre ⟨k, hk1⟩)
    have hpr : wrap64 (ori f g n * sg (det (f k) (g k) (f ((k + 1) % n)) (g ((k + 1) % n)) x y)) = sideP f g n x y k := by rw [show ori f g n * sg (det (f k) (g k) (f ((k + 1) % n)) (g ((k + 1) % n)) x y) = sideP f g n x y k from rfl, ← IntWalk.i64_left, IntKind.wrap_i64]; omega
    have hpr2 : IntKind.i64.wrap (ori f g n * sg (det (f k) (g k) (f ((k + 1) % n)) (g ((k + 1) % n)) x y)) = sideP f g n x y k := by rw [show ori f g n * sg (det (f k) (g k) (f ((k + 1) % n)) (g ((k + 1) % n)) x y) = sideP f g n x y k from rfl, IntKind.wrap_i64]; omega
    have H5 : Hid (Bx W Be #[.int .i64 (k : Int), .int .i64 (((k + 1) % n : Nat) : Int), .int .i64 (f k), .int .i64 (g k), .int .i64 (f ((k + 1) % n)), .int .i64 (g ((k + 1) % n))] 245) := Lib.hid bE
    have H1 := Lib.hid i1; have H2 := Lib.hid i2; have H3 := Lib.hid i3; have H4 := Lib.hid i4; have HBE := Lib.hid hBe; clear i1 i2 i3 i4 bE hBe hl hlen
    have KF := Lib.hid (KeepsFrom.refl W0.heap.size W)
    generalize hK2 : (k + 1) % n = k2 at H5 hk2 hp3 hpr hpr2
    simp only [show ((⟨k, hk1⟩ : Fin n) : Nat) = k from rfl] at hss
    generalize sideP f g n x y k = sd at hsd hpr hpr2 hss
    generalize (locSt (sideP f g n x y) pre).1 = o0 at H1 hss
    generalize (locSt (sideP f g n x y) pre).2 = d0 at H2 hss
    have HP3 := Lib.hid hp3; have HPR := Lib.hid hpr; have HPS := Lib.hid hpr2
    have HI := Lib.hid (show IsI sd by unfold IsI; omega)
    have HW := Lib.hid (wu0 hsd)
    have hsz1 : w.heap.size + 1 < w3.heap.size := by have := FP_3.out.lt; omega
    have n1 : w.heap.size ≠ w3.heap.size := by omega
    have n2 : w3.heap.size ≠ w.heap.size := by omega
    have n3 : Be ≠ w3.heap.size := by have := HBE.out; omega
    have n4 : w3.heap.size ≠ Be := by have := HBE.out; omega
    clear hp3 hpr hpr2 hsz1 hsd
    have H4' := H4
    have H3' := H3
    by_cases hk0 : k = 0
    · have HK0 := Lib.hid hk0; clear hk0
      have HOR := Lib.hid (show bits .or .u64 (msk false) (msk (decide (sd < 0))) = msk (decide (sd < 0)) from or_msk _ _); have HOS := Lib.hid (or_msk d0 (decide (sd = 0)))
      have zE := H5.out.cell 0 (v := .int .i64 (k : Int)) rfl; have zN := (FN_3.out.below H4.out (Nat.le_refl _)).cell 0 (v := .pointer none) rfl
      have hk0' : (k : Int) = 0 := by have := HK0.out; omega
      have zO := H1.out.cell 0 (v := .int .u64 (msk o0)) rfl; have zF := H1.out.free 0; have zL := H1.out.lt
      gi_wp2_with fail
      clear zE zN hk0' zO zF zL
      have C21 := Lib.hid (show Below w3.heap.size w3 (W.setCell ⟨w3.heap.size, 0, none⟩ (.int .u64 0)) from H4.out.setCell (p := ⟨w3.heap.size, 0, none⟩) (Nat.le_refl _) _); have K21 := Lib.hid (show KeepsFrom _ _ (W.setCell ⟨w3.heap.size, 0, none⟩ (.int .u64 0)) from KF.out.trans ((KeepsOthers.setCell _ _ _).from _))
      clear H4 KF
      have BO21 := Lib.hid (show Bx (W.setCell ⟨w3.heap.size, 0, none⟩ (.int .u64 0)) (w3.heap.size) #[.int .u64 0] 61 from H1.out.set 0 _)
      clear H1
      have BD21 := Lib.hid (show Bx (W.setCell ⟨w3.heap.size, 0, none⟩ (.int .u64 0)) (w3.heap.size + 1) #[.int .u64 (msk d0)] 61 from H2.out.other _ (show w3.heap.size + 1 ≠ w3.heap.size from by have h1 := HSZ.out; have h2 := HBE.out; omega))
      clear H2
      have BV21 := Lib.hid (show Bx (W.setCell ⟨w3.heap.size, 0, none⟩ (.int .u64 0)) (w3.heap.size + 1 + 1) #[.slice A n c] 29 from H3.out.other _ (show w3.heap.size + 1 + 1 ≠ w3.heap.size from by have h1 := HSZ.out; have h2 := HBE.out; omega))
      clear H3
      have BE21 := Lib.hid (show Bx (W.setCell ⟨w3.heap.size, 0, none⟩ (.int .u64 0)) (Be) #[.int .i64 (k : Int), .int .i64 (k2 : Int), .int .i64 (f k), .int .i64 (g k), .int .i64 (f k2), .int .i64 (g k2)] 245 from H5.out.other _ (show Be ≠ w3.heap.size from by have h1 := HSZ.out; have h2 := HBE.out; omega))
      clear H5
      generalize (W.setCell ⟨w3.heap.size, 0, none⟩ (.int .u64 0)) = w21 at *
      have BOm := Lib.hid (show Bx w21 w3.heap.size #[.int .u64 (msk false)] 61 from BO21.out); clear BO21
      have FT_21 := Lib.hid (FT_3.out.below C21.out (Nat.le_refl _))
      have FX_21 := Lib.hid (FX_3.out.below C21.out (Nat.le_refl _))
      have FN_21 := Lib.hid (FN_3.out.below C21.out (Nat.le_refl _))
      have FP_21 := Lib.hid (FP_3.out.below C21.out (Nat.le_refl _))
      have FS_21 := Lib.hid (FS_3.out.below C21.out (Nat.le_refl _))
      have FO_21 := BOm
      have FD_21 := BD21
      have FV_21 := BV21
      have FE_21 := BE21
      have HS21 := Lib.hid (Below.refl w21.heap.size w21)
      skip
      try refine ⟨trivial, ?_⟩
      refine CallsIn.mono (n := _) (CallsIn.inRound l (callsIn_wide.2 (tape_Note_nil _ _ _ _))) ?_
      rintro e w22 ⟨rfl, rfl⟩
      gi_wp2_with fail
      refine wpIn_region_any (by kernel_rfl) ?_
      change wpAnyIn _ _ _ _ _ _ _ _ _ (World.drew _)
      have RB22 := Lib.hid (below_drew0 w21)
      refine wpAnyIn_tail (WideF.round l) (fun a b => Below a.heap.size a b) (fun _ => below_rf) (fun _ _ _ h k => below_tr h k) [⟨0, 25, fun z_ _ => z_ = .int .i64 (ori f g n)⟩, ⟨1, 26, fun z_ _ => z_ = .pointer (some ⟨Be, 2, none⟩)⟩, ⟨2, 27, fun z_ _ => z_ = .agg #[.int .i64 (f k), .int .i64 (g k)]⟩, ⟨3, 28, fun z_ _ => z_ = .pointer (some ⟨Be, 4, none⟩)⟩, ⟨4, 29, fun z_ _ => z_ = .agg #[.int .i64 (f k2), .int .i64 (g k2)]⟩, ⟨5, 30, fun z_ _ => z_ = .agg #[.int .i64 x, .int .i64 y]⟩, ⟨6, 31, fun z_ _ => z_ = .int .i64 (sg (det (f k) (g k) (f k2) (g k2) x y))⟩, ⟨7, 32, fun z_ _ => z_ = .int .i64 sd⟩, ⟨8, 11, fun z_ _ => z_ = .int .i64 sd⟩] 9 (by kernel_rfl) ?_ ?_ ?_
      · refine ⟨?_, ?_, ?_, ?_, ?_, ?_, ?_, ?_, ?_, trivial⟩
        all_goals (intro x w w' hb h; first | exact h | (obtain ⟨b_, h1, h2⟩ := h; exact ⟨b_, h1, h2.below hb (Nat.le_refl _)⟩))
      · refine ⟨?_, ?_, ?_, ?_, ?_, ?_, ?_, ?_, ?_, trivial⟩
        · intro a wz K hb ht hd hK
          have hbw := Lib.hid (below_tr RB22.out hb); clear hb
          have hx7 := (ht 7 rfl).trans rfl
          have es7 : a.tmps.getD 7 undef = _ := getD_of hx7; clear hx7
          clear ht hd
          have zc0 := (FS_21.out.below hbw.out (Nat.le_refl _)).cell 0 (v := .int .i64 (ori f g n)) rfl
          have HK := Lib.hid hK; clear hK
          refine wpOpP_step (by simp only [List.getElem?_toArray, List.getElem?_cons_succ, List.getElem?_cons_zero]; rfl) (fun K' hK' => ?_)
          have HK' := Lib.hid hK'; clear hK'
          go_simp
          exact HK'.out _ _ (HK.out _ _ below_rf rfl)
        · intro a wz K hb ht hd hK
          have hbw := Lib.hid (below_tr RB22.out hb); clear hb
          have hx10 := (ht 10 rfl).trans rfl
          have es10 : a.tmps.getD 10 undef = _ := getD_of hx10; clear hx10
          clear ht hd
          have HK := Lib.hid hK; clear hK
          refine wpOpP_step (by simp only [List.getElem?_toArray, List.getElem?_cons_succ, List.getElem?_cons_zero]; rfl) (fun K' hK' => ?_)
          have HK' := Lib.hid hK'; clear hK'
          go_simp
          exact HK'.out _ _ (HK.out _ _ below_rf rfl)
        · intro a wz K hb ht hd hK
          have hbw := Lib.hid (below_tr RB22.out hb); clear hb
          obtain ⟨x26, hx26, hp26⟩ := hd 1 _ rfl (by kernel_rfl)
          obtain rfl := hp26
          have es26 : a.tmps.getD 26 undef = _ := getD_of hx26; clear hx26
          clear ht hd
          have zc0 := (FE_21.out.below hbw.out (Nat.le_refl _)).cell 2 (v := .int .i64 (f k)) rfl
          have zc1 := (FE_21.out.below hbw.out (Nat.le_refl _)).cell 3 (v := .int .i64 (g k)) rfl
          have HK := Lib.hid hK; clear hK
          refine wpOpP_step (by simp only [List.getElem?_toArray, List.getElem?_cons_succ, List.getElem?_cons_zero]; rfl) (fun K' hK' => ?_)
          have HK' := Lib.hid hK'; clear hK'
          go_simp
          exact HK'.out _ _ (HK.out _ _ below_rf rfl)
        · intro a wz K hb ht hd hK
          have hbw := Lib.hid (below_tr RB22.out hb); clear hb
          have hx10 := (ht 10 rfl).trans rfl
          have es10 : a.tmps.getD 10 undef = _ := getD_of hx10; clear hx10
          clear ht hd
          have HK := Lib.hid hK; clear hK
          refine wpOpP_step (by simp only [List.getElem?_toArray, List.getElem?_cons_succ, List.getElem?_cons_zero]; rfl) (fun K' hK' => ?_)
          have HK' := Lib.hid hK'; clear hK'
          go_simp
          exact HK'.out _ _ (HK.out _ _ below_rf rfl)
        · intro a wz K hb ht hd hK
          have hbw := Lib.hid (below_tr RB22.out hb); clear hb
          obtain ⟨x28, hx28, hp28⟩ := hd 3 _ rfl (by kernel_rfl)
          obtain rfl := hp28
          have es28 : a.tmps.getD 28 undef = _ := getD_of hx28; clear hx28
          clear ht hd
          have zc0 := (FE_21.out.below hbw.out (Nat.le_refl _)).cell 4 (v := .int .i64 (f k2)) rfl
          have zc1 := (FE_21.out.below hbw.out (Nat.le_refl _)).cell 5 (v := .int .i64 (g k2)) rfl
          have HK := Lib.hid hK; clear hK
          refine wpOpP_step (by simp only [List.getElem?_toArray, List.getElem?_cons_succ, List.getElem?_cons_zero]; rfl) (fun K' hK' => ?_)
          have HK' := Lib.hid hK'; clear hK'
          go_simp
          exact HK'.out _ _ (HK.out _ _ below_rf rfl)
        · intro a wz K hb ht hd hK
          have hbw := Lib.hid (below_tr RB22.out hb); clear hb
          have hx5 := (ht 5 rfl).trans rfl
          have es5 : a.tmps.getD 5 undef = _ := getD_of hx5; clear hx5
          clear ht hd
          have zc0 := (FP_21.out.below hbw.out (Nat.le_refl _)).cell 0 (v := .int .i64 x) rfl
          have zc1 := (FP_21.out.below hbw.out (Nat.le_refl _)).cell 1 (v := .int .i64 y) rfl
          have HK := Lib.hid hK; clear hK
          refine wpOpP_step (by simp only [List.getElem?_toArray, List.getElem?_cons_succ, List.getElem?_cons_zero]; rfl) (fun K' hK' => ?_)
          have HK' := Lib.hid hK'; clear hK'
          go_simp
          exact HK'.out _ _ (HK.out _ _ below_rf rfl)
        · intro a wz K hb ht hd hK
          have hbw := Lib.hid (below_tr RB22.out hb); clear hb
          obtain ⟨x27, hx27, hp27⟩ := hd 2 _ rfl (by kernel_rfl)
          obtain rfl := hp27
          have es27 : a.tmps.getD 27 undef = _ := getD_of hx27; clear hx27
          obtain ⟨x29, hx29, hp29⟩ := hd 4 _ rfl (by kernel_rfl)
          obtain rfl := hp29
          have es29 : a.tmps.getD 29 undef = _ := getD_of hx29; clear hx29
          obtain ⟨x30, hx30, hp30⟩ := hd 5 _ rfl (by kernel_rfl)
          obtain rfl := hp30
          have es30 : a.tmps.getD 30 undef = _ := getD_of hx30; clear hx30
          clear ht hd
          have HK := Lib.hid hK; clear hK
          refine wpOpP_step (by simp only [List.getElem?_toArray, List.getElem?_cons_succ, List.getElem?_cons_zero]; rfl) (fun K' hK' => ?_)
          have HK' := Lib.hid hK'; clear hK'
          go_simp
          refine (orient_Sign _ _ _ _ _ _ HP3.out _ (FT_21.out.below hbw.out (Nat.le_refl _))).mono ?_
          rintro e w1 ⟨rfl, B⟩
          go_wp2_with fail
          exact HK'.out _ _ (HK.out _ _ B rfl)
        · intro a wz K hb ht hd hK
          have hbw := Lib.hid (below_tr RB22.out hb); clear hb
          obtain ⟨x25, hx25, hp25⟩ := hd 0 _ rfl (by kernel_rfl)
          obtain rfl := hp25
          have es25 : a.tmps.getD 25 undef = _ := getD_of hx25; clear hx25
          obtain ⟨x31, hx31, hp31⟩ := hd 6 _ rfl (by kernel_rfl)
          obtain rfl := hp31
          have es31 : a.tmps.getD 31 undef = _ := getD_of hx31; clear hx31
          clear ht hd
          have HK := Lib.hid hK; clear hK
          have e1 := HPR.out; have e2 := HPS.out
          refine wpOpP_step (by simp only [List.getElem?_toArray, List.getElem?_cons_succ, List.getElem?_cons_zero]; rfl) (fun K' hK' => ?_)
          have HK' := Lib.hid hK'; clear hK'
          go_simp
          exact HK'.out _ _ (HK.out _ _ below_rf rfl)
        · intro a wz K hb ht hd hK
          have hbw := Lib.hid (below_tr RB22.out hb); clear hb
          obtain ⟨x32, hx32, hp32⟩ := hd 7 _ rfl (by kernel_rfl)
          obtain rfl := hp32
          have es32 : a.tmps.getD 32 undef = _ := getD_of hx32; clear hx32
          clear ht hd
          have HK := Lib.hid hK; clear hK
          refine wpOpP_step (by simp only [List.getElem?_toArray, List.getElem?_cons_succ, List.getElem?_cons_zero]; rfl) (fun K' hK' => ?_)
          have HK' := Lib.hid hK'; clear hK'
          go_simp
          exact HK'.out _ _ (HK.out _ _ below_rf rfl)
      intro w23 X hb hv
      simp only [List.foldl_cons, List.foldl_nil, Act.put, List.setIfInBounds_toArray, List.set_cons_zero, List.set_cons_succ, List.toList_toArray, List.drop_succ_cons, List.drop_zero]
      obtain ⟨hv0, hv1, hv2, hv3, hv4, hv5, hv6, hv7, hv8, -⟩ := hv
      have hV0 : (fun z_ _ => z_ = .int .i64 (ori f g n)) (X 25) w23 := hv0; clear hv0; have hv0 := hV0; clear hV0; generalize X 25 = X25 at *
      have hV1 : (fun z_ _ => z_ = .pointer (some ⟨Be, 2, none⟩)) (X 26) w23 := hv1; clear hv1; have hv1 := hV1; clear hV1; generalize X 26 = X26 at *
      have hV2 : (fun z_ _ => z_ = .agg #[.int .i64 (f k), .int .i64 (g k)]) (X 27) w23 := hv2; clear hv2; have hv2 := hV2; clear hV2; generalize X 27 = X27 at *
      have hV3 : (fun z_ _ => z_ = .pointer (some ⟨Be, 4, none⟩)) (X 28) w23 := hv3; clear hv3; have hv3 := hV3; clear hV3; generalize X 28 = X28 at *
      have hV4 : (fun z_ _ => z_ = .agg #[.int .i64 (f k2), .int .i64 (g k2)]) (X 29) w23 := hv4; clear hv4; have hv4 := hV4; clear hV4; generalize X 29 = X29 at *
      have hV5 : (fun z_ _ => z_ = .agg #[.int .i64 x, .int .i64 y]) (X 30) w23 := hv5; clear hv5; have hv5 := hV5; clear hV5; generalize X 30 = X30 at *
      have hV6 : (fun z_ _ => z_ = .int .i64 (sg (det (f k) (g k) (f k2) (g k2) x y))) (X 31) w23 := hv6; clear hv6; have hv6 := hV6; clear hV6; generalize X 31 = X31 at *
      have hV7 : (fun z_ _ => z_ = .int .i64 sd) (X 32) w23 := hv7; clear hv7; have hv7 := hV7; clear hV7; generalize X 32 = X32 at *
      have hV8 : (fun z_ _ => z_ = .int .i64 sd) (X 11) w23 := hv8; clear hv8; have hv8 := hV8; clear hV8; generalize X 11 = X11 at *
      obtain rfl := hv0
      obtain rfl := hv1
      obtain rfl := hv2
      obtain rfl := hv3
      obtain rfl := hv4
      obtain rfl := hv5
      obtain rfl := hv6
      obtain rfl := hv7
      obtain rfl := hv8
      have RC := Lib.hid (below_tr RB22.out hb); clear hb
      have FT_23 := Lib.hid (FT_21.out.below RC.out (Nat.le_refl _))
      have FX_23 := Lib.hid (FX_21.out.below RC.out (Nat.le_refl _))
      have FN_23 := Lib.hid (FN_21.out.below RC.out (Nat.le_refl _))
      have FP_23 := Lib.hid (FP_21.out.below RC.out (Nat.le_refl _))
      have FS_23 := Lib.hid (FS_21.out.below RC.out (Nat.le_refl _))
      have FO_23 := Lib.hid (FO_21.out.below RC.out (Nat.le_refl _))
      have FD_23 := Lib.hid (FD_21.out.below RC.out (Nat.le_refl _))
      have FV_23 := Lib.hid (FV_21.out.below RC.out (Nat.le_refl _))
      have FE_23 := Lib.hid (FE_21.out.below RC.out (Nat.le_refl _))
      have HB23 := Lib.hid (HS21.out.trans (RC.out.mono HS21.out.size))
      clear HS21 FT_21 FX_21 FN_21 FP_21 FS_21 FO_21 FD_21 FV_21 FE_21 RB22
      gi_wp2_with fail
      refine wpIn_region_any (by kernel_rfl) ?_
      change wpAnyIn _ _ _ _ _ _ _ _ _ (World.drew _)
      have RB23 := Lib.hid (below_drew0 w23)
      refine wpAnyIn_tail (WideF.round l) (fun a b => Below a.heap.size a b) (fun _ => below_rf) (fun _ _ _ h k => below_tr h k) [⟨0, 33, fun z_ _ => z_ = .int .u64 (msk false)⟩, ⟨1, 34, fun z_ _ => z_ = .int .i64 sd⟩, ⟨2, 35, fun z_ _ => z_ = .int .u64 (msk (decide (sd < 0)))⟩, ⟨3, 36, fun z_ _ => z_ = .int .u64 (msk (decide (sd < 0)))⟩] 4 (by kernel_rfl) ?_ ?_ ?_
      · refine ⟨?_, ?_, ?_, ?_, trivial⟩
        all_goals (intro x w w' hb h; first | exact h | (obtain ⟨b_, h1, h2⟩ := h; exact ⟨b_, h1, h2.below hb (Nat.le_refl _)⟩))
      · refine ⟨?_, ?_, ?_, ?_, trivial⟩
        · intro a wz K hb ht hd hK
          have hbw := Lib.hid (below_tr RB23.out hb); clear hb
          have hx8 := (ht 8 rfl).trans rfl
          have es8 : a.tmps.getD 8 undef = _ := getD_of hx8; clear hx8
          clear ht hd
          have zc0 := (FO_23.out.below hbw.out (Nat.le_refl _)).cell 0 (v := .int .u64 (msk false)) rfl
          have HK := Lib.hid hK; clear hK
          refine wpOpP_step (by simp only [List.getElem?_toArray, List.getElem?_cons_succ, List.getElem?_cons_zero]; rfl) (fun K' hK' => ?_)
          have HK' := Lib.hid hK'; clear hK'
          go_simp
          exact HK'.out _ _ (HK.out _ _ below_rf rfl)
        · intro a wz K hb ht hd hK
          have hbw := Lib.hid (below_tr RB23.out hb); clear hb
          have hx11 := (ht 11 rfl).trans rfl
          have es11 : a.tmps.getD 11 undef = _ := getD_of hx11; clear hx11
          clear ht hd
          have HK := Lib.hid hK; clear hK
          refine wpOpP_step (by simp only [List.getElem?_toArray, List.getElem?_cons_succ, List.getElem?_cons_zero]; rfl) (fun K' hK' => ?_)
          have HK' := Lib.hid hK'; clear hK'
          go_simp
          exact HK'.out _ _ (HK.out _ _ below_rf rfl)
        · intro a wz K hb ht hd hK
          have hbw := Lib.hid (below_tr RB23.out hb); clear hb
          obtain ⟨x34, hx34, hp34⟩ := hd 1 _ rfl (by kernel_rfl)
          obtain rfl := hp34
          have es34 : a.tmps.getD 34 undef = _ := getD_of hx34; clear hx34
          clear ht hd
          have HK := Lib.hid hK; clear hK
          refine wpOpP_step (by simp only [List.getElem?_toArray, List.getElem?_cons_succ, List.getElem?_cons_zero]; rfl) (fun K' hK' => ?_)
          have HK' := Lib.hid hK'; clear hK'
          go_simp
          refine (mask_Negative _ HI.out _).mono ?_
          rintro e w1 ⟨rfl, rfl⟩
          go_wp2_with fail
          exact HK'.out _ _ (HK.out _ _ below_rf rfl)
        · intro a wz K hb ht hd hK
          have hbw := Lib.hid (below_tr RB23.out hb); clear hb
          obtain ⟨x33, hx33, hp33⟩ := hd 0 _ rfl (by kernel_rfl)
          obtain rfl := hp33
          have es33 : a.tmps.getD 33 undef = _ := getD_of hx33; clear hx33
          obtain ⟨x35, hx35, hp35⟩ := hd 2 _ rfl (by kernel_rfl)
          obtain rfl := hp35
          have es35 : a.tmps.getD 35 undef = _ := getD_of hx35; clear hx35
          clear ht hd
          have HK := Lib.hid hK; clear hK
          have e1 := HOR.out
          refine wpOpP_step (by simp only [List.getElem?_toArray, List.getElem?_cons_succ, List.getElem?_cons_zero]; rfl) (fun K' hK' => ?_)
          have HK' := Lib.hid hK'; clear hK'
          go_simp
          exact HK'.out _ _ (HK.out _ _ below_rf rfl)
      intro w24 X hb hv
      simp only [List.foldl_cons, List.foldl_nil, Act.put, List.setIfInBounds_toArray, List.set_cons_zero, List.set_cons_succ, List.toList_toArray, List.drop_succ_cons, List.drop_zero]
      obtain ⟨hv0, hv1, hv2, hv3, -⟩ := hv
      have hV0 : (fun z_ _ => z_ = .int .u64 (msk false)) (X 33) w24 := hv0; clear hv0; have hv0 := hV0; clear hV0; generalize X 33 = X33 at *
      have hV1 : (fun z_ _ => z_ = .int .i64 sd) (X 34) w24 := hv1; clear hv1; have hv1 := hV1; clear hV1; generalize X 34 = X34 at *
      have hV2 : (fun z_ _ => z_ = .int .u64 (msk (decide (sd < 0)))) (X 35) w24 := hv2; clear hv2; have hv2 := hV2; clear hV2; generalize X 35 = X35 at *
      have hV3 : (fun z_ _ => z_ = .int .u64 (msk (decide (sd < 0)))) (X 36) w24 := hv3; clear hv3; have hv3 := hV3; clear hV3; generalize X 36 = X36 at *
      obtain rfl := hv0
      obtain rfl := hv1
      obtain rfl := hv2
      obtain rfl := hv3
      have RC := Lib.hid (below_tr RB23.out hb); clear hb
      have FT_24 := Lib.hid (FT_23.out.below RC.out (Nat.le_refl _))
      have FX_24 := Lib.hid (FX_23.out.below RC.out (Nat.le_refl _))
      have FN_24 := Lib.hid (FN_23.out.below RC.out (Nat.le_refl _))
      have FP_24 := Lib.hid (FP_23.out.below RC.out (Nat.le_refl _))
      have FS_24 := Lib.hid (FS_23.out.below RC.out (Nat.le_refl _))
      have FO_24 := Lib.hid (FO_23.out.below RC.out (Nat.le_refl _))
      have FD_24 := Lib.hid (FD_23.out.below RC.out (Nat.le_refl _))
      have FV_24 := Lib.hid (FV_23.out.below RC.out (Nat.le_refl _))
      have FE_24 := Lib.hid (FE_23.out.below RC.out (Nat.le_refl _))
      have HB24 := Lib.hid (HB23.out.trans (RC.out.mono HB23.out.size))
      clear HB23 FT_23 FX_23 FN_23 FP_23 FS_23 FO_23 FD_23 FV_23 FE_23 RB23
      have C25 := Lib.hid (C21.out.trans (HB24.out.mono C21.out.size)); have K25 := Lib.hid (K21.out.trans ((keeps_below HB24.out).from _))
      clear C21 K21
      have BO25 := FO_24
      clear BOm
      have BD25 := FD_24
      clear BD21
      have BV25 := FV_24
      clear BV21
      have BE25 := FE_24
      clear BE21
      clear HB24 FT_24 FX_24 FN_24 FP_24 FS_24 FO_24 FD_24 FV_24 FE_24
      have zO := BO25.out.cell 0 (v := .int .u64 (msk false)) rfl; have zF := BO25.out.free 0; have zL := BO25.out.lt
      gi_wp2_with fail
      clear zO zF zL
      have C26 := Lib.hid (show Below w3.heap.size w3 (w24.setCell ⟨w3.heap.size, 0, none⟩ (.int .u64 (msk (decide (sd < 0))))) from C25.out.setCell (p := ⟨w3.heap.size, 0, none⟩) (Nat.le_refl _) _); have K26 := Lib.hid (show KeepsFrom _ _ (w24.setCell ⟨w3.heap.size, 0, none⟩ (.int .u64 (msk (decide (sd < 0))))) from K25.out.trans ((KeepsOthers.setCell _ _ _).from _))
      clear C25 K25
      have BO26 := Lib.hid (show Bx (w24.setCell ⟨w3.heap.size, 0, none⟩ (.int .u64 (msk (decide (sd < 0))))) (w3.heap.size) #[.int .u64 (msk (decide (sd < 0)))] 61 from BO25.out.set 0 _)
      clear BO25
      have BD26 := Lib.hid (show Bx (w24.setCell ⟨w3.heap.size, 0, none⟩ (.int .u64 (msk (decide (sd < 0))))) (w3.heap.size + 1) #[.int .u64 (msk d0)] 61 from BD25.out.other _ (show w3.heap.size + 1 ≠ w3.heap.size from by have h1 := HSZ.out; have h2 := HBE.out; omega))
      clear BD25
      have BV26 := Lib.hid (show Bx (w24.setCell ⟨w3.heap.size, 0, none⟩ (.int .u64 (msk (decide (sd < 0))))) (w3.heap.size + 1 + 1) #[.slice A n c] 29 from BV25.out.other _ (show w3.heap.size + 1 + 1 ≠ w3.heap.size from by have h1 := HSZ.out; have h2 := HBE.out; omega))
      clear BV25
      have BE26 := Lib.hid (show Bx (w24.setCell ⟨w3.heap.size, 0, none⟩ (.int .u64 (msk (decide (sd < 0))))) (Be) #[.int .i64 (k : Int), .int .i64 (k2 : Int), .int .i64 (f k), .int .i64 (g k), .int .i64 (f k2), .int .i64 (g k2)] 245 from BE25.out.other _ (show Be ≠ w3.heap.size from by have h1 := HSZ.out; have h2 := HBE.out; omega))
      clear BE25
      generalize (w24.setCell ⟨w3.heap.size, 0, none⟩ (.int .u64 (msk (decide (sd < 0))))) = w26 at *
      have FT_26 := Lib.hid (FT_3.out.below C26.out (Nat.le_refl _))
      have FX_26 := Lib.hid (FX_3.out.below C26.out (Nat.le_refl _))
      have FN_26 := Lib.hid (FN_3.out.below C26.out (Nat.le_refl _))
      have FP_26 := Lib.hid (FP_3.out.below C26.out (Nat.le_refl _))
      have FS_26 := Lib.hid (FS_3.out.below C26.out (Nat.le_refl _))
      have FO_26 := BO26
      have FD_26 := BD26
      have FV_26 := BV26
      have FE_26 := BE26
      have HS26 := Lib.hid (Below.refl w26.heap.size w26)
      refine wpIn_region_any (by kernel_rfl) ?_
      change wpAnyIn _ _ _ _ _ _ _ _ _ (World.drew _)
      have RB26 := Lib.hid (below_drew0 w26)
      refine wpAnyIn_tail (WideF.round l) (fun a b => Below a.heap.size a b) (fun _ => below_rf) (fun _ _ _ h k => below_tr h k) [⟨0, 37, fun z_ _ => z_ = .int .u64 (msk d0)⟩, ⟨1, 38, fun z_ _ => z_ = .int .i64 sd⟩, ⟨2, 39, fun z_ _ => z_ = .int .u64 (IntKind.u64.wrap sd)⟩, ⟨3, 40, fun z_ _ => z_ = .int .u64 (msk (decide (sd = 0)))⟩, ⟨4, 41, fun z_ _ => z_ = .int .u64 (msk (d0 || decide (sd = 0)))⟩] 5 (by kernel_rfl) ?_ ?_ ?_
      · refine ⟨?_, ?_, ?_, ?_, ?_, trivial⟩
        all_goals (intro x w w' hb h; first | exact h | (obtain ⟨b_, h1, h2⟩ := h; exact ⟨b_, h1, h2.below hb (Nat.le_refl _)⟩))
      · refine ⟨?_, ?_, ?_, ?_, ?_, trivial⟩
        · intro a wz K hb ht hd hK
          have hbw := Lib.hid (below_tr RB26.out hb); clear hb
          have hx9 := (ht 9 rfl).trans rfl
          have es9 : a.tmps.getD 9 undef = _ := getD_of hx9; clear hx9
          clear ht hd
          have zc0 := (FD_26.out.below hbw.out (Nat.le_refl _)).cell 0 (v := .int .u64 (msk d0)) rfl
          have HK := Lib.hid hK; clear hK
          refine wpOpP_step (by simp only [List.getElem?_toArray, List.getElem?_cons_succ, List.getElem?_cons_zero]; rfl) (fun K' hK' => ?_)
          have HK' := Lib.hid hK'; clear hK'
          go_simp
          exact HK'.out _ _ (HK.out _ _ below_rf rfl)
        · intro a wz K hb ht hd hK
          have hbw := Lib.hid (below_tr RB26.out hb); clear hb
          have hx11 := (ht 11 rfl).trans rfl
          have es11 : a.tmps.getD 11 undef = _ := getD_of hx11; clear hx11
          clear ht hd
          have HK := Lib.hid hK; clear hK
          refine wpOpP_step (by simp only [List.getElem?_toArray, List.getElem?_cons_succ, List.getElem?_cons_zero]; rfl) (fun K' hK' => ?_)
          have HK' := Lib.hid hK'; clear hK'
          go_simp
          exact HK'.out _ _ (HK.out _ _ below_rf rfl)
        · intro a wz K hb ht hd hK
          have hbw := Lib.hid (below_tr RB26.out hb); clear hb
          obtain ⟨x38, hx38, hp38⟩ := hd 1 _ rfl (by kernel_rfl)
          obtain rfl := hp38
          have es38 : a.tmps.getD 38 undef = _ := getD_of hx38; clear hx38
          clear ht hd
          have HK := Lib.hid hK; clear hK
          refine wpOpP_step (by simp only [List.getElem?_toArray, List.getElem?_cons_succ, List.getElem?_cons_zero]; rfl) (fun K' hK' => ?_)
          have HK' := Lib.hid hK'; clear hK'
          go_simp
          exact HK'.out _ _ (HK.out _ _ below_rf rfl)
        · intro a wz K hb ht hd hK
          have hbw := Lib.hid (below_tr RB26.out hb); clear hb
          obtain ⟨x39, hx39, hp39⟩ := hd 2 _ rfl (by kernel_rfl)
          obtain rfl := hp39
          have es39 : a.tmps.getD 39 undef = _ := getD_of hx39; clear hx39
          clear ht hd
          have HK := Lib.hid hK; clear hK
          refine wpOpP_step (by simp only [List.getElem?_toArray, List.getElem?_cons_succ, List.getElem?_cons_zero]; rfl) (fun K' hK' => ?_)
          have HK' := Lib.hid hK'; clear hK'
          go_simp
          refine (mask_Zero _ (isW_wrap _) _).mono ?_
          rintro e w1 ⟨rfl, rfl⟩
          rw [HW.out]
          go_wp2_with fail
          exact HK'.out _ _ (HK.out _ _ below_rf rfl)
        · intro a wz K hb ht hd hK
          have hbw := Lib.hid (below_tr RB26.out hb); clear hb
          obtain ⟨x37, hx37, hp37⟩ := hd 0 _ rfl (by kernel_rfl)
          obtain rfl := hp37
          have es37 : a.tmps.getD 37 undef = _ := getD_of hx37; clear hx37
          obtain ⟨x40, hx40, hp40⟩ := hd 3 _ rfl (by kernel_rfl)
          obtain rfl := hp40
          have es40 : a.tmps.getD 40 undef = _ := getD_of hx40; clear hx40
          clear ht hd
          have HK := Lib.hid hK; clear hK
          have e1 := HOS.out
          refine wpOpP_step (by simp only [List.getElem?_toArray, List.getElem?_cons_succ, List.getElem?_cons_zero]; rfl) (fun K' hK' => ?_)
          have HK' := Lib.hid hK'; clear hK'
          go_simp
          exact HK'.out _ _ (HK.out _ _ below_rf rfl)
      intro w27 X hb hv
      simp only [List.foldl_cons, List.foldl_nil, Act.put, List.setIfInBounds_toArray, List.set_cons_zero, List.set_cons_succ, List.toList_toArray, List.drop_succ_cons, List.drop_zero]
      obtain ⟨hv0, hv1, hv2, hv3, hv4, -⟩ := hv
      have hV0 : (fun z_ _ => z_ = .int .u64 (msk d0)) (X 37) w27 := hv0; clear hv0; have hv0 := hV0; clear hV0; generalize X 37 = X37 at *
      have hV1 : (fun z_ _ => z_ = .int .i64 sd) (X 38) w27 := hv1; clear hv1; have hv1 := hV1; clear hV1; generalize X 38 = X38 at *
      have hV2 : (fun z_ _ => z_ = .int .u64 (IntKind.u64.wrap sd)) (X 39) w27 := hv2; clear hv2; have hv2 := hV2; clear hV2; generalize X 39 = X39 at *
      have hV3 : (fun z_ _ => z_ = .int .u64 (msk (decide (sd = 0)))) (X 40) w27 := hv3; clear hv3; have hv3 := hV3; clear hV3; generalize X 40 = X40 at *
      have hV4 : (fun z_ _ => z_ = .int .u64 (msk (d0 || decide (sd = 0)))) (X 41) w27 := hv4; clear hv4; have hv4 := hV4; clear hV4; generalize X 41 = X41 at *
      obtain rfl := hv0
      obtain rfl := hv1
      obtain rfl := hv2
      obtain rfl := hv3
      obtain rfl := hv4
      have RC := Lib.hid (below_tr RB26.out hb); clear hb
      have FT_27 := Lib.hid (FT_26.out.below RC.out (Nat.le_refl _))
      have FX_27 := Lib.hid (FX_26.out.below RC.out (Nat.le_refl _))
      have FN_27 := Lib.hid (FN_26.out.below RC.out (Nat.le_refl _))
      have FP_27 := Lib.hid (FP_26.out.below RC.out (Nat.le_refl _))
      have FS_27 := Lib.hid (FS_26.out.below RC.out (Nat.le_refl _))
      have FO_27 := Lib.hid (FO_26.out.below RC.out (Nat.le_refl _))
      have FD_27 := Lib.hid (FD_26.out.below RC.out (Nat.le_refl _))
      have FV_27 := Lib.hid (FV_26.out.below RC.out (Nat.le_refl _))
      have FE_27 := Lib.hid (FE_26.out.below RC.out (Nat.le_refl _))
      have HB27 := Lib.hid (HS26.out.trans (RC.out.mono HS26.out.size))
      clear HS26 FT_26 FX_26 FN_26 FP_26 FS_26 FO_26 FD_26 FV_26 FE_26 RB26
      have C28 := Lib.hid (C26.out.trans (HB27.out.mono C26.out.size)); have K28 := Lib.hid (K26.out.trans ((keeps_below HB27.out).from _))
      clear C26 K26
      have BO28 := FO_27
      clear BO26
      have BD28 := FD_27
      clear BD26
      have BV28 := FV_27
      clear BV26
      have BE28 := FE_27
      clear BE26
      clear HB27 FT_27 FX_27 FN_27 FP_27 FS_27 FO_27 FD_27 FV_27 FE_27
      have zO := BD28.out.cell 0 (v := .int .u64 (msk d0)) rfl; have zF := BD28.out.free 0; have zL := BD28.out.lt
      gi_wp2_with fail
      clear zO zF zL
      have C29 := Lib.hid (show Below w3.heap.size w3 (w27.setCell ⟨w3.heap.size + 1, 0, none⟩ (.int .u64 (msk (d0 || decide (sd = 0))))) from C28.out.setCell (p := ⟨w3.heap.size + 1, 0, none⟩) (Nat.le_add_right _ _) _); have K29 := Lib.hid (show KeepsFrom _ _ (w27.setCell ⟨w3.heap.size + 1, 0, none⟩ (.int .u64 (msk (d0 || decide (sd = 0))))) from K28.out.trans ((KeepsOthers.setCell _ _ _).from _))
      clear C28 K28
      have BO29 := Lib.hid (show Bx (w27.setCell ⟨w3.heap.size + 1, 0, none⟩ (.int .u64 (msk (d0 || decide (sd = 0))))) (w3.heap.size) #[.int .u64 (msk (decide (sd < 0)))] 61 from BO28.out.other _ (show w3.heap.size ≠ w3.heap.size + 1 from by have h1 := HSZ.out; have h2 := HBE.out; omega))
      clear BO28
      have BD29 := Lib.hid (show Bx (w27.setCell ⟨w3.heap.size + 1, 0, none⟩ (.int .u64 (msk (d0 || decide (sd = 0))))) (w3.heap.size + 1) #[.int .u64 (msk (d0 || decide (sd = 0)))] 61 from BD28.out.set 0 _)
      clear BD28
      have BV29 := Lib.hid (show Bx (w27.setCell ⟨w3.heap.size + 1, 0, none⟩ (.int .u64 (msk (d0 || decide (sd = 0))))) (w3.heap.size + 1 + 1) #[.slice A n c] 29 from BV28.out.other _ (show w3.heap.size + 1 + 1 ≠ w3.heap.size + 1 from by have h1 := HSZ.out; have h2 := HBE.out; omega))
      clear BV28
      have BE29 := Lib.hid (show Bx (w27.setCell ⟨w3.heap.size + 1, 0, none⟩ (.int .u64 (msk (d0 || decide (sd = 0))))) (Be) #[.int .i64 (k : Int), .int .i64 (k2 : Int), .int .i64 (f k), .int .i64 (g k), .int .i64 (f k2), .int .i64 (g k2)] 245 from BE28.out.other _ (show Be ≠ w3.heap.size + 1 from by have h1 := HSZ.out; have h2 := HBE.out; omega))
      clear BE28
      generalize (w27.setCell ⟨w3.heap.size + 1, 0, none⟩ (.int .u64 (msk (d0 || decide (sd = 0))))) = w29 at *
      refine ⟨K29.out, ⟨below_diff H4'.out C29.out K29.out.size, (show _ = _ from BV29.out).trans (show _ = _ from H3'.out).symm⟩, ?_⟩
      dsimp only; rw [hss.out]; dsimp only
      rw [if_pos HK0.out, Bool.false_or]
      exact ⟨BO29.out, BD29.out, BV29.out, C29.out⟩
    · have HK0 := Lib.hid hk0; clear hk0
      have HOR := Lib.hid (show bits .or .u64 (msk o0) (msk (decide (sd < 0))) = msk (o0 || decide (sd < 0)) from or_msk _ _); have HOS := Lib.hid (or_msk d0 (decide (sd = 0)))
      have zE := H5.out.cell 0 (v := .int .i64 (k : Int)) rfl; have zN := (FN_3.out.below H4.out (Nat.le_refl _)).cell 0 (v := .pointer none) rfl
      have hk0' : ¬ ((k : Int) = 0) := by have := HK0.out; omega
      gi_wp2_with fail
      clear zE zN hk0'
      have FT_20 := Lib.hid (FT_3.out.below H4.out (Nat.le_refl _))
      have FX_20 := Lib.hid (FX_3.out.below H4.out (Nat.le_refl _))
      have FN_20 := Lib.hid (FN_3.out.below H4.out (Nat.le_refl _))
      have FP_20 := Lib.hid (FP_3.out.below H4.out (Nat.le_refl _))
      have FS_20 := Lib.hid (FS_3.out.below H4.out (Nat.le_refl _))
      have FO_20 := H1
      have FD_20 := H2
      have FV_20 := H3
      have FE_20 := H5
      have HS20 := Lib.hid (Below.refl W.heap.size W)
      skip
      try refine ⟨trivial, ?_⟩
      refine CallsIn.mono (n := _) (CallsIn.inRound l (callsIn_wide.2 (tape_Note_nil _ _ _ _))) ?_
      rintro e w21 ⟨rfl, rfl⟩
      gi_wp2_with fail
      refine wpIn_region_any (by kernel_rfl) ?_
      change wpAnyIn _ _ _ _ _ _ _ _ _ (World.drew _)
      have RB21 := Lib.hid (below_drew0 W)
      refine wpAnyIn_tail (WideF.round l) (fun a b => Below a.heap.size a b) (fun _ => below_rf) (fun _ _ _ h k => below_tr h k) [⟨0, 25, fun z_ _ => z_ = .int .i64 (ori f g n)⟩, ⟨1, 26, fun z_ _ => z_ = .pointer (some ⟨Be, 2, none⟩)⟩, ⟨2, 27, fun z_ _ => z_ = .agg #[.int .i64 (f k), .int .i64 (g k)]⟩, ⟨3, 28, fun z_ _ => z_ = .pointer (some ⟨Be, 4, none⟩)⟩, ⟨4, 29, fun z_ _ => z_ = .agg #[.int .i64 (f k2), .int .i64 (g k2)]⟩, ⟨5, 30, fun z_ _ => z_ = .agg #[.int .i64 x, .int .i64 y]⟩, ⟨6, 31, fun z_ _ => z_ = .int .i64 (sg (det (f k) (g k) (f k2) (g k2) x y))⟩, ⟨7, 32, fun z_ _ => z_ = .int .i64 sd⟩, ⟨8, 11, fun z_ _ => z_ = .int .i64 sd⟩] 9 (by kernel_rfl) ?_ ?_ ?_
      · refine ⟨?_, ?_, ?_, ?_, ?_, ?_, ?_, ?_, ?_, trivial⟩
        all_goals (intro x w w' hb h; first | exact h | (obtain ⟨b_, h1, h2⟩ := h; exact ⟨b_, h1, h2.below hb (Nat.le_refl _)⟩))
      · refine ⟨?_, ?_, ?_, ?_, ?_, ?_, ?_, ?_, ?_, trivial⟩
        · intro a wz K hb ht hd hK
          have hbw := Lib.hid (below_tr RB21.out hb); clear hb
          have hx7 := (ht 7 rfl).trans rfl
          have es7 : a.tmps.getD 7 undef = _ := getD_of hx7; clear hx7
          clear ht hd
          have zc0 := (FS_20.out.below hbw.out (Nat.le_refl _)).cell 0 (v := .int .i64 (ori f g n)) rfl
          have HK := Lib.hid hK; clear hK
          refine wpOpP_step (by simp only [List.getElem?_toArray, List.getElem?_cons_succ, List.getElem?_cons_zero]; rfl) (fun K' hK' => ?_)
          have HK' := Lib.hid hK'; clear hK'
          go_simp
          exact HK'.out _ _ (HK.out _ _ below_rf rfl)
        · intro a wz K hb ht hd hK
          have hbw := Lib.hid (below_tr RB21.out hb); clear hb
          have hx10 := (ht 10 rfl).trans rfl
          have es10 : a.tmps.getD 10 undef = _ := getD_of hx10; clear hx10
          clear ht hd
          have HK := Lib.hid hK; clear hK
          refine wpOpP_step (by simp only [List.getElem?_toArray, List.getElem?_cons_succ, List.getElem?_cons_zero]; rfl) (fun K' hK' => ?_)
          have HK' := Lib.hid hK'; clear hK'
          go_simp
          exact HK'.out _ _ (HK.out _ _ below_rf rfl)
        · intro a wz K hb ht hd hK
          have hbw := Lib.hid (below_tr RB21.out hb); clear hb
          obtain ⟨x26, hx26, hp26⟩ := hd 1 _ rfl (by kernel_rfl)
          obtain rfl := hp26
          have es26 : a.tmps.getD 26 undef = _ := getD_of hx26; clear hx26
          clear ht hd
          have zc0 := (FE_20.out.below hbw.out (Nat.le_refl _)).cell 2 (v := .int .i64 (f k)) rfl
          have zc1 := (FE_20.out.below hbw.out (Nat.le_refl _)).cell 3 (v := .int .i64 (g k)) rfl
          have HK := Lib.hid hK; clear hK
          refine wpOpP_step (by simp only [List.getElem?_toArray, List.getElem?_cons_succ, List.getElem?_cons_zero]; rfl) (fun K' hK' => ?_)
          have HK' := Lib.hid hK'; clear hK'
          go_simp
          exact HK'.out _ _ (HK.out _ _ below_rf rfl)
        · intro a wz K hb ht hd hK
          have hbw := Lib.hid (below_tr RB21.out hb); clear hb
          have hx10 := (ht 10 rfl).trans rfl
          have es10 : a.tmps.getD 10 undef = _ := getD_of hx10; clear hx10
          clear ht hd
          have HK := Lib.hid hK; clear hK
          refine wpOpP_step (by simp only [List.getElem?_toArray, List.getElem?_cons_succ, List.getElem?_cons_zero]; rfl) (fun K' hK' => ?_)
          have HK' := Lib.hid hK'; clear hK'
          go_simp
          exact HK'.out _ _ (HK.out _ _ below_rf rfl)
        · intro a wz K hb ht hd hK
          have hbw := Lib.hid (below_tr RB21.out hb); clear hb
          obtain ⟨x28, hx28, hp28⟩ := hd 3 _ rfl (by kernel_rfl)
          obtain rfl := hp28
          have es28 : a.tmps.getD 28 undef = _ := getD_of hx28; clear hx28
          clear ht hd
          have zc0 := (FE_20.out.below hbw.out (Nat.le_refl _)).cell 4 (v := .int .i64 (f k2)) rfl
          have zc1 := (FE_20.out.below hbw.out (Nat.le_refl _)).cell 5 (v := .int .i64 (g k2)) rfl
          have HK := Lib.hid hK; clear hK
          refine wpOpP_step (by simp only [List.getElem?_toArray, List.getElem?_cons_succ, List.getElem?_cons_zero]; rfl) (fun K' hK' => ?_)
          have HK' := Lib.hid hK'; clear hK'
          go_simp
          exact HK'.out _ _ (HK.out _ _ below_rf rfl)
        · intro a wz K hb ht hd hK
          have hbw := Lib.hid (below_tr RB21.out hb); clear hb
          have hx5 := (ht 5 rfl).trans rfl
          have es5 : a.tmps.getD 5 undef = _ := getD_of hx5; clear hx5
          clear ht hd
          have zc0 := (FP_20.out.below hbw.out (Nat.le_refl _)).cell 0 (v := .int .i64 x) rfl
          have zc1 := (FP_20.out.below hbw.out (Nat.le_refl _)).cell 1 (v := .int .i64 y) rfl
          have HK := Lib.hid hK; clear hK
          refine wpOpP_step (by simp only [List.getElem?_toArray, List.getElem?_cons_succ, List.getElem?_cons_zero]; rfl) (fun K' hK' => ?_)
          have HK' := Lib.hid hK'; clear hK'
          go_simp
          exact HK'.out _ _ (HK.out _ _ below_rf rfl)
        · intro a wz K hb ht hd hK
          have hbw := Lib.hid (below_tr RB21.out hb); clear hb
          obtain ⟨x27, hx27, hp27⟩ := hd 2 _ rfl (by kernel_rfl)
          obtain rfl := hp27
          have es27 : a.tmps.getD 27 undef = _ := getD_of hx27; clear hx27
          obtain ⟨x29, hx29, hp29⟩ := hd 4 _ rfl (by kernel_rfl)
          obtain rfl := hp29
          have es29 : a.tmps.getD 29 undef = _ := getD_of hx29; clear hx29
          obtain ⟨x30, hx30, hp30⟩ := hd 5 _ rfl (by kernel_rfl)
          obtain rfl := hp30
          have es30 : a.tmps.getD 30 undef = _ := getD_of hx30; clear hx30
          clear ht hd
          have HK := Lib.hid hK; clear hK
          refine wpOpP_step (by simp only [List.getElem?_toArray, List.getElem?_cons_succ, List.getElem?_cons_zero]; rfl) (fun K' hK' => ?_)
          have HK' := Lib.hid hK'; clear hK'
          go_simp
          refine (orient_Sign _ _ _ _ _ _ HP3.out _ (FT_20.out.below hbw.out (Nat.le_refl _))).mono ?_
          rintro e w1 ⟨rfl, B⟩
          go_wp2_with fail
          exact HK'.out _ _ (HK.out _ _ B rfl)
        · intro a wz K hb ht hd hK
          have hbw := Lib.hid (below_tr RB21.out hb); clear hb
          obtain ⟨x25, hx25, hp25⟩ := hd 0 _ rfl (by kernel_rfl)
          obtain rfl := hp25
          have es25 : a.tmps.getD 25 undef = _ := getD_of hx25; clear hx25
          obtain ⟨x31, hx31, hp31⟩ := hd 6 _ rfl (by kernel_rfl)
          obtain rfl := hp31
          have es31 : a.tmps.getD 31 undef = _ := getD_of hx31; clear hx31
          clear ht hd
          have HK := Lib.hid hK; clear hK
          have e1 := HPR.out; have e2 := HPS.out
          refine wpOpP_step (by simp only [List.getElem?_toArray, List.getElem?_cons_succ, List.getElem?_cons_zero]; rfl) (fun K' hK' => ?_)
          have HK' := Lib.hid hK'; clear hK'
          go_simp
          exact HK'.out _ _ (HK.out _ _ below_rf rfl)
        · intro a wz K hb ht hd hK
          have hbw := Lib.hid (below_tr RB21.out hb); clear hb
          obtain ⟨x32, hx32, hp32⟩ := hd 7 _ rfl (by kernel_rfl)
          obtain rfl := hp32
          have es32 : a.tmps.getD 32 undef = _ := getD_of hx32; clear hx32
          clear ht hd
          have HK := Lib.hid hK; clear hK
          refine wpOpP_step (by simp only [List.getElem?_toArray, List.getElem?_cons_succ, List.getElem?_cons_zero]; rfl) (fun K' hK' => ?_)
          have HK' := Lib.hid hK'; clear hK'
          go_simp
          exact HK'.out _ _ (HK.out _ _ below_rf rfl)
      intro w22 X hb hv
      simp only [List.foldl_cons, List.foldl_nil, Act.put, List.setIfInBounds_toArray, List.set_cons_zero, List.set_cons_succ, List.toList_toArray, List.drop_succ_cons, List.drop_zero]
      obtain ⟨hv0, hv1, hv2, hv3, hv4, hv5, hv6, hv7, hv8, -⟩ := hv
      have hV0 : (fun z_ _ => z_ = .int .i64 (ori f g n)) (X 25) w22 := hv0; clear hv0; have hv0 := hV0; clear hV0; generalize X 25 = X25 at *
      have hV1 : (fun z_ _ => z_ = .pointer (some ⟨Be, 2, none⟩)) (X 26) w22 := hv1; clear hv1; have hv1 := hV1; clear hV1; generalize X 26 = X26 at *
      have hV2 : (fun z_ _ => z_ = .agg #[.int .i64 (f k), .int .i64 (g k)]) (X 27) w22 := hv2; clear hv2; have hv2 := hV2; clear hV2; generalize X 27 = X27 at *
      have hV3 : (fun z_ _ => z_ = .pointer (some ⟨Be, 4, none⟩)) (X 28) w22 := hv3; clear hv3; have hv3 := hV3; clear hV3; generalize X 28 = X28 at *
      have hV4 : (fun z_ _ => z_ = .agg #[.int .i64 (f k2), .int .i64 (g k2)]) (X 29) w22 := hv4; clear hv4; have hv4 := hV4; clear hV4; generalize X 29 = X29 at *
      have hV5 : (fun z_ _ => z_ = .agg #[.int .i64 x, .int .i64 y]) (X 30) w22 := hv5; clear hv5; have hv5 := hV5; clear hV5; generalize X 30 = X30 at *
      have hV6 : (fun z_ _ => z_ = .int .i64 (sg (det (f k) (g k) (f k2) (g k2) x y))) (X 31) w22 := hv6; clear hv6; have hv6 := hV6; clear hV6; generalize X 31 = X31 at *
      have hV7 : (fun z_ _ => z_ = .int .i64 sd) (X 32) w22 := hv7; clear hv7; have hv7 := hV7; clear hV7; generalize X 32 = X32 at *
      have hV8 : (fun z_ _ => z_ = .int .i64 sd) (X 11) w22 := hv8; clear hv8; have hv8 := hV8; clear hV8; generalize X 11 = X11 at *
      obtain rfl := hv0
      obtain rfl := hv1
      obtain rfl := hv2
      obtain rfl := hv3
      obtain rfl := hv4
      obtain rfl := hv5
      obtain rfl := hv6
      obtain rfl := hv7
      obtain rfl := hv8
      have RC := Lib.hid (below_tr RB21.out hb); clear hb
      have FT_22 := Lib.hid (FT_20.out.below RC.out (Nat.le_refl _))
      have FX_22 := Lib.hid (FX_20.out.below RC.out (Nat.le_refl _))
      have FN_22 := Lib.hid (FN_20.out.below RC.out (Nat.le_refl _))
      have FP_22 := Lib.hid (FP_20.out.below RC.out (Nat.le_refl _))
      have FS_22 := Lib.hid (FS_20.out.below RC.out (Nat.le_refl _))
      have FO_22 := Lib.hid (FO_20.out.below RC.out (Nat.le_refl _))
      have FD_22 := Lib.hid (FD_20.out.below RC.out (Nat.le_refl _))
      have FV_22 := Lib.hid (FV_20.out.below RC.out (Nat.le_refl _))
      have FE_22 := Lib.hid (FE_20.out.below RC.out (Nat.le_refl _))
      have HB22 := Lib.hid (HS20.out.trans (RC.out.mono HS20.out.size))
      clear HS20 FT_20 FX_20 FN_20 FP_20 FS_20 FO_20 FD_20 FV_20 FE_20 RB21
      gi_wp2_with fail
      refine wpIn_region_any (by kernel_rfl) ?_
      change wpAnyIn _ _ _ _ _ _ _ _ _ (World.drew _)
      have RB22 := Lib.hid (below_drew0 w22)
      refine wpAnyIn_tail (WideF.round l) (fun a b => Below a.heap.size a b) (fun _ => below_rf) (fun _ _ _ h k => below_tr h k) [⟨0, 33, fun z_ _ => z_ = .int .u64 (msk o0)⟩, ⟨1, 34, fun z_ _ => z_ = .int .i64 sd⟩, ⟨2, 35, fun z_ _ => z_ = .int .u64 (msk (decide (sd < 0)))⟩, ⟨3, 36, fun z_ _ => z_ = .int .u64 (msk (o0 || decide (sd < 0)))⟩] 4 (by kernel_rfl) ?_ ?_ ?_
      · refine ⟨?_, ?_, ?_, ?_, trivial⟩
        all_goals (intro x w w' hb h; first | exact h | (obtain ⟨b_, h1, h2⟩ := h; exact ⟨b_, h1, h2.below hb (Nat.le_refl _)⟩))
      · refine ⟨?_, ?_, ?_, ?_, trivial⟩
        · intro a wz K hb ht hd hK
          have hbw := Lib.hid (below_tr RB22.out hb); clear hb
          have hx8 := (ht 8 rfl).trans rfl
          have es8 : a.tmps.getD 8 undef = _ := getD_of hx8; clear hx8
          clear ht hd
          have zc0 := (FO_22.out.below hbw.out (Nat.le_refl _)).cell 0 (v := .int .u64 (msk o0)) rfl
          have HK := Lib.hid hK; clear hK
          refine wpOpP_step (by simp only [List.getElem?_toArray, List.getElem?_cons_succ, List.getElem?_cons_zero]; rfl) (fun K' hK' => ?_)
          have HK' := Lib.hid hK'; clear hK'
          go_simp
          exact HK'.out _ _ (HK.out _ _ below_rf rfl)
        · intro a wz K hb ht hd hK
          have hbw := Lib.hid (below_tr RB22.out hb); clear hb
          have hx11 := (ht 11 rfl).trans rfl
          have es11 : a.tmps.getD 11 undef = _ := getD_of hx11; clear hx11
          clear ht hd
          have HK := Lib.hid hK; clear hK
          refine wpOpP_step (by simp only [List.getElem?_toArray, List.getElem?_cons_succ, List.getElem?_cons_zero]; rfl) (fun K' hK' => ?_)
          have HK' := Lib.hid hK'; clear hK'
          go_simp
          exact HK'.out _ _ (HK.out _ _ below_rf rfl)
        · intro a wz K hb ht hd hK
          have hbw := Lib.hid (below_tr RB22.out hb); clear hb
          obtain ⟨x34, hx34, hp34⟩ := hd 1 _ rfl (by kernel_rfl)
          obtain rfl := hp34
          have es34 : a.tmps.getD 34 undef = _ := getD_of hx34; clear hx34
          clear ht hd
          have HK := Lib.hid hK; clear hK
          refine wpOpP_step (by simp only [List.getElem?_toArray, List.getElem?_cons_succ, List.getElem?_cons_zero]; rfl) (fun K' hK' => ?_)
          have HK' := Lib.hid hK'; clear hK'
          go_simp
          refine (mask_Negative _ HI.out _).mono ?_
          rintro e w1 ⟨rfl, rfl⟩
          go_wp2_with fail
          exact HK'.out _ _ (HK.out _ _ below_rf rfl)
        · intro a wz K hb ht hd hK
          have hbw := Lib.hid (below_tr RB22.out hb); clear hb
          obtain ⟨x33, hx33, hp33⟩ := hd 0 _ rfl (by kernel_rfl)
          obtain rfl := hp33
          have es33 : a.tmps.getD 33 undef = _ := getD_of hx33; clear hx33
          obtain ⟨x35, hx35, hp35⟩ := hd 2 _ rfl (by kernel_rfl)
          obtain rfl := hp35
          have es35 : a.tmps.getD 35 undef = _ := getD_of hx35; clear hx35
          clear ht hd
          have HK := Lib.hid hK; clear hK
          have e1 := HOR.out
          refine wpOpP_step (by simp only [List.getElem?_toArray, List.getElem?_cons_succ, List.getElem?_cons_zero]; rfl) (fun K' hK' => ?_)
          have HK' := Lib.hid hK'; clear hK'
          go_simp
          exact HK'.out _ _ (HK.out _ _ below_rf rfl)
      intro w23 X hb hv
      simp only [List.foldl_cons, List.foldl_nil, Act.put, List.setIfInBounds_toArray, List.set_cons_zero, List.set_cons_succ, List.toList_toArray, List.drop_succ_cons, List.drop_zero]
      obtain ⟨hv0, hv1, hv2, hv3, -⟩ := hv
      have hV0 : (fun z_ _ => z_ = .int .u64 (msk o0)) (X 33) w23 := hv0; clear hv0; have hv0 := hV0; clear hV0; generalize X 33 = X33 at *
      have hV1 : (fun z_ _ => z_ = .int .i64 sd) (X 34) w23 := hv1; clear hv1; have hv1 := hV1; clear hV1; generalize X 34 = X34 at *
      have hV2 : (fun z_ _ => z_ = .int .u64 (msk (decide (sd < 0)))) (X 35) w23 := hv2; clear hv2; have hv2 := hV2; clear hV2; generalize X 35 = X35 at *
      have hV3 : (fun z_ _ => z_ = .int .u64 (msk (o0 || decide (sd < 0)))) (X 36) w23 := hv3; clear hv3; have hv3 := hV3; clear hV3; generalize X 36 = X36 at *
      obtain rfl := hv0
      obtain rfl := hv1
      obtain rfl := hv2
      obtain rfl := hv3
      have RC := Lib.hid (below_tr RB22.out hb); clear hb
      have FT_23 := Lib.hid (FT_22.out.below RC.out (Nat.le_refl _))
      have FX_23 := Lib.hid (FX_22.out.below RC.out (Nat.le_refl _))
      have FN_23 := Lib.hid (FN_22.out.below RC.out (Nat.le_refl _))
      have FP_23 := Lib.hid (FP_22.out.below RC.out (Nat.le_refl _))
      have FS_23 := Lib.hid (FS_22.out.below RC.out (Nat.le_refl _))
      have FO_23 := Lib.hid (FO_22.out.below RC.out (Nat.le_refl _))
      have FD_23 := Lib.hid (FD_22.out.below RC.out (Nat.le_refl _))
      have FV_23 := Lib.hid (FV_22.out.below RC.out (Nat.le_refl _))
      have FE_23 := Lib.hid (FE_22.out.below RC.out (Nat.le_refl _))
      have HB23 := Lib.hid (HB22.out.trans (RC.out.mono HB22.out.size))
      clear HB22 FT_22 FX_22 FN_22 FP_22 FS_22 FO_22 FD_22 FV_22 FE_22 RB22
      have C24 := Lib.hid (H4.out.trans (HB23.out.mono H4.out.size)); have K24 := Lib.hid (KF.out.trans ((keeps_below HB23.out).from _))
      clear H4 KF
      have BO24 := FO_23
      clear H1
      have BD24 := FD_23
      clear H2
      have BV24 := FV_23
      clear H3
      have BE24 := FE_23
      clear H5
      clear HB23 FT_23 FX_23 FN_23 FP_23 FS_23 FO_23 FD_23 FV_23 FE_23
      have zO := BO24.out.cell 0 (v := .int .u64 (msk o0)) rfl; have zF := BO24.out.free 0; have zL := BO24.out.lt
      gi_wp2_with fail
      clear zO zF zL
      have C25 := Lib.hid (show Below w3.heap.size w3 (w23.setCell ⟨w3.heap.size, 0, none⟩ (.int .u64 (msk (o0 || decide (sd < 0))))) from C24.out.setCell (p := ⟨w3.heap.size, 0, none⟩) (Nat.le_refl _) _); have K25 := Lib.hid (show KeepsFrom _ _ (w23.setCell ⟨w3.heap.size, 0, none⟩ (.int .u64 (msk (o0 || decide (sd < 0))))) from K24.out.trans ((KeepsOthers.setCell _ _ _).from _))
      clear C24 K24
      have BO25 := Lib.hid (show Bx (w23.setCell ⟨w3.heap.size, 0, none⟩ (.int .u64 (msk (o0 || decide (sd < 0))))) (w3.heap.size) #[.int .u64 (msk (o0 || decide (sd < 0)))] 61 from BO24.out.set 0 _)
      clear BO24
      have BD25 := Lib.hid (show Bx (w23.setCell ⟨w3.heap.size, 0, none⟩ (.int .u64 (msk (o0 || decide (sd < 0))))) (w3.heap.size + 1) #[.int .u64 (msk d0)] 61 from BD24.out.other _ (show w3.heap.size + 1 ≠ w3.heap.size from by have h1 := HSZ.out; have h2 := HBE.out; omega))
      clear BD24
      have BV25 := Lib.hid (show Bx (w23.setCell ⟨w3.heap.size, 0, none⟩ (.int .u64 (msk (o0 || decide (sd < 0))))) (w3.heap.size + 1 + 1) #[.slice A n c] 29 from BV24.out.other _ (show w3.heap.size + 1 + 1 ≠ w3.heap.size from by have h1 := HSZ.out; have h2 := HBE.out; omega))
      clear BV24
      have BE25 := Lib.hid (show Bx (w23.setCell ⟨w3.heap.size, 0, none⟩ (.int .u64 (msk (o0 || decide (sd < 0))))) (Be) #[.int .i64 (k : Int), .int .i64 (k2 : Int), .int .i64 (f k), .int .i64 (g k), .int .i64 (f k2), .int .i64 (g k2)] 245 from BE24.out.other _ (show Be ≠ w3.heap.size from by have h1 := HSZ.out; have h2 := HBE.out; omega))
      clear BE24
      generalize (w23.setCell ⟨w3.heap.size, 0, none⟩ (.int .u64 (msk (o0 || decide (sd < 0))))) = w25 at *
      have FT_25 := Lib.hid (FT_3.out.below C25.out (Nat.le_refl _))
      have FX_25 := Lib.hid (FX_3.out.below C25.out (Nat.le_refl _))
      have FN_25 := Lib.hid (FN_3.out.below C25.out (Nat.le_refl _))
      have FP_25 := Lib.hid (FP_3.out.below C25.out (Nat.le_refl _))
      have FS_25 := Lib.hid (FS_3.out.below C25.out (Nat.le_refl _))
      have FO_25 := BO25
      have FD_25 := BD25
      have FV_25 := BV25
      have FE_25 := BE25
      have HS25 := Lib.hid (Below.refl w25.heap.size w25)
      refine wpIn_region_any (by kernel_rfl) ?_
      change wpAnyIn _ _ _ _ _ _ _ _ _ (World.drew _)
      have RB25 := Lib.hid (below_drew0 w25)
      refine wpAnyIn_tail (WideF.round l) (fun a b => Below a.heap.size a b) (fun _ => below_rf) (fun _ _ _ h k => below_tr h k) [⟨0, 37, fun z_ _ => z_ = .int .u64 (msk d0)⟩, ⟨1, 38, fun z_ _ => z_ = .int .i64 sd⟩, ⟨2, 39, fun z_ _ => z_ = .int .u64 (IntKind.u64.wrap sd)⟩, ⟨3, 40, fun z_ _ => z_ = .int .u64 (msk (decide (sd = 0)))⟩, ⟨4, 41, fun z_ _ => z_ = .int .u64 (msk (d0 || decide (sd = 0)))⟩] 5 (by kernel_rfl) ?_ ?_ ?_
      · refine ⟨?_, ?_, ?_, ?_, ?_, trivial⟩
        all_goals (intro x w w' hb h; first | exact h | (obtain ⟨b_, h1, h2⟩ := h; exact ⟨b_, h1, h2.below hb (Nat.le_refl _)⟩))
      · refine ⟨?_, ?_, ?_, ?_, ?_, trivial⟩
        · intro a wz K hb ht hd hK
          have hbw := Lib.hid (below_tr RB25.out hb); clear hb
          have hx9 := (ht 9 rfl).trans rfl
          have es9 : a.tmps.getD 9 undef = _ := getD_of hx9; clear hx9
          clear ht hd
          have zc0 := (FD_25.out.below hbw.out (Nat.le_refl _)).cell 0 (v := .int .u64 (msk d0)) rfl
          have HK := Lib.hid hK; clear hK
          refine wpOpP_step (by simp only [List.getElem?_toArray, List.getElem?_cons_succ, List.getElem?_cons_zero]; rfl) (fun K' hK' => ?_)
          have HK' := Lib.hid hK'; clear hK'
          go_simp
          exact HK'.out _ _ (HK.out _ _ below_rf rfl)
        · intro a wz K hb ht hd hK
          have hbw := Lib.hid (below_tr RB25.out hb); clear hb
          have hx11 := (ht 11 rfl).trans rfl
          have es11 : a.tmps.getD 11 undef = _ := getD_of hx11; clear hx11
          clear ht hd
          have HK := Lib.hid hK; clear hK
          refine wpOpP_step (by simp only [List.getElem?_toArray, List.getElem?_cons_succ, List.getElem?_cons_zero]; rfl) (fun K' hK' => ?_)
          have HK' := Lib.hid hK'; clear hK'
          go_simp
          exact HK'.out _ _ (HK.out _ _ below_rf rfl)
        · intro a wz K hb ht hd hK
          have hbw := Lib.hid (below_tr RB25.out hb); clear hb
          obtain ⟨x38, hx38, hp38⟩ := hd 1 _ rfl (by kernel_rfl)
          obtain rfl := hp38
          have es38 : a.tmps.getD 38 undef = _ := getD_of hx38; clear hx38
          clear ht hd
          have HK := Lib.hid hK; clear hK
          refine wpOpP_step (by simp only [List.getElem?_toArray, List.getElem?_cons_succ, List.getElem?_cons_zero]; rfl) (fun K' hK' => ?_)
          have HK' := Lib.hid hK'; clear hK'
          go_simp
          exact HK'.out _ _ (HK.out _ _ below_rf rfl)
        · intro a wz K hb ht hd hK
          have hbw := Lib.hid (below_tr RB25.out hb); clear hb
          obtain ⟨x39, hx39, hp39⟩ := hd 2 _ rfl (by kernel_rfl)
          obtain rfl := hp39
          have es39 : a.tmps.getD 39 undef = _ := getD_of hx39; clear hx39
          clear ht hd
          have HK := Lib.hid hK; clear hK
          refine wpOpP_step (by simp only [List.getElem?_toArray, List.getElem?_cons_succ, List.getElem?_cons_zero]; rfl) (fun K' hK' => ?_)
          have HK' := Lib.hid hK'; clear hK'
          go_simp
          refine (mask_Zero _ (isW_wrap _) _).mono ?_
          rintro e w1 ⟨rfl, rfl⟩
          rw [HW.out]
          go_wp2_with fail
          exact HK'.out _ _ (HK.out _ _ below_rf rfl)
        · intro a wz K hb ht hd hK
          have hbw := Lib.hid (below_tr RB25.out hb); clear hb
          obtain ⟨x37, hx37, hp37⟩ := hd 0 _ rfl (by kernel_rfl)
          obtain rfl := hp37
          have es37 : a.tmps.getD 37 undef = _ := getD_of hx37; clear hx37
          obtain ⟨x40, hx40, hp40⟩ := hd 3 _ rfl (by kernel_rfl)
          obtain rfl := hp40
          have es40 : a.tmps.getD 40 undef = _ := getD_of hx40; clear hx40
          clear ht hd
          have HK := Lib.hid hK; clear hK
          have e1 := HOS.out
          refine wpOpP_step (by simp only [List.getElem?_toArray, List.getElem?_cons_succ, List.getElem?_cons_zero]; rfl) (fun K' hK' => ?_)
          have HK' := Lib.hid hK'; clear hK'
          go_simp
          exact HK'.out _ _ (HK.out _ _ below_rf rfl)
      intro w26 X hb hv
      simp only [List.foldl_cons, List.foldl_nil, Act.put, List.setIfInBounds_toArray, List.set_cons_zero, List.set_cons_succ, List.toList_toArray, List.drop_succ_cons, List.drop_zero]
      obtain ⟨hv0, hv1, hv2, hv3, hv4, -⟩ := hv
      have hV0 : (fun z_ _ => z_ = .int .u64 (msk d0)) (X 37) w26 := hv0; clear hv0; have hv0 := hV0; clear hV0; generalize X 37 = X37 at *
      have hV1 : (fun z_ _ => z_ = .int .i64 sd) (X 38) w26 := hv1; clear hv1; have hv1 := hV1; clear hV1; generalize X 38 = X38 at *
      have hV2 : (fun z_ _ => z_ = .int .u64 (IntKind.u64.wrap sd)) (X 39) w26 := hv2; clear hv2; have hv2 := hV2; clear hV2; generalize X 39 = X39 at *
      have hV3 : (fun z_ _ => z_ = .int .u64 (msk (decide (sd = 0)))) (X 40) w26 := hv3; clear hv3; have hv3 := hV3; clear hV3; generalize X 40 = X40 at *
      have hV4 : (fun z_ _ => z_ = .int .u64 (msk (d0 || decide (sd = 0)))) (X 41) w26 := hv4; clear hv4; have hv4 := hV4; clear hV4; generalize X 41 = X41 at *
      obtain rfl := hv0
      obtain rfl := hv1
      obtain rfl := hv2
      obtain rfl := hv3
      obtain rfl := hv4
      have RC := Lib.hid (below_tr RB25.out hb); clear hb
      have FT_26 := Lib.hid (FT_25.out.below RC.out (Nat.le_refl _))
      have FX_26 := Lib.hid (FX_25.out.below RC.out (Nat.le_refl _))
      have FN_26 := Lib.hid (FN_25.out.below RC.out (Nat.le_refl _))
      have FP_26 := Lib.hid (FP_25.out.below RC.out (Nat.le_refl _))
      have FS_26 := Lib.hid (FS_25.out.below RC.out (Nat.le_refl _))
      have FO_26 := Lib.hid (FO_25.out.below RC.out (Nat.le_refl _))
      have FD_26 := Lib.hid (FD_25.out.below RC.out (Nat.le_refl _))
      have FV_26 := Lib.hid (FV_25.out.below RC.out (Nat.le_refl _))
      have FE_26 := Lib.hid (FE_25.out.below RC.out (Nat.le_refl _))
      have HB26 := Lib.hid (HS25.out.trans (RC.out.mono HS25.out.size))
      clear HS25 FT_25 FX_25 FN_25 FP_25 FS_25 FO_25 FD_25 FV_25 FE_25 RB25
      have C27 := Lib.hid (C25.out.trans (HB26.out.mono C25.out.size)); have K27 := Lib.hid (K25.out.trans ((keeps_below HB26.out).from _))
      clear C25 K25
      have BO27 := FO_26
      clear BO25
      have BD27 := FD_26
      clear BD25
      have BV27 := FV_26
      clear BV25
      have BE27 := FE_26
      clear BE25
      clear HB26 FT_26 FX_26 FN_26 FP_26 FS_26 FO_26 FD_26 FV_26 FE_26
      have zO := BD27.out.cell 0 (v := .int .u64 (msk d0)) rfl; have zF := BD27.out.free 0; have zL := BD27.out.lt
      gi_wp2_with fail
      clear zO zF zL
      have C28 := Lib.hid (show Below w3.heap.size w3 (w26.setCell ⟨w3.heap.size + 1, 0, none⟩ (.int .u64 (msk (d0 || decide (sd = 0))))) from C27.out.setCell (p := ⟨w3.heap.size + 1, 0, none⟩) (Nat.le_add_right _ _) _); have K28 := Lib.hid (show KeepsFrom _ _ (w26.setCell ⟨w3.heap.size + 1, 0, none⟩ (.int .u64 (msk (d0 || decide (sd = 0))))) from K27.out.trans ((KeepsOthers.setCell _ _ _).from _))
      clear C27 K27
      have BO28 := Lib.hid (show Bx (w26.setCell ⟨w3.heap.size + 1, 0, none⟩ (.int .u64 (msk (d0 || decide (sd = 0))))) (w3.heap.size) #[.int .u64 (msk (o0 || decide (sd < 0)))] 61 from BO27.out.other _ (show w3.heap.size ≠ w3.heap.size + 1 from by have h1 := HSZ.out; have h2 := HBE.out; omega))
      clear BO27
      have BD28 := Lib.hid (show Bx (w26.setCell ⟨w3.heap.size + 1, 0, none⟩ (.int .u64 (msk (d0 || decide (sd = 0))))) (w3.heap.size + 1) #[.int .u64 (msk (d0 || decide (sd = 0)))] 61 from BD27.out.set 0 _)
      clear BD27
      have BV28 := Lib.hid (show Bx (w26.setCell ⟨w3.heap.size + 1, 0, none⟩ (.int .u64 (msk (d0 || decide (sd = 0))))) (w3.heap.size + 1 + 1) #[.slice A n c] 29 from BV27.out.other _ (show w3.heap.size + 1 + 1 ≠ w3.heap.size + 1 from by have h1 := HSZ.out; have h2 := HBE.out; omega))
      clear BV27
      have BE28 := Lib.hid (show Bx (w26.setCell ⟨w3.heap.size + 1, 0, none⟩ (.int .u64 (msk (d0 || decide (sd = 0))))) (Be) #[.int .i64 (k : Int), .int .i64 (k2 : Int), .int .i64 (f k), .int .i64 (g k), .int .i64 (f k2), .int .i64 (g k2)] 245 from BE27.out.other _ (show Be ≠ w3.heap.size + 1 from by have h1 := HSZ.out; have h2 := HBE.out; omega))
      clear BE27
      generalize (w26.setCell ⟨w3.heap.size + 1, 0, none⟩ (.int .u64 (msk (d0 || decide (sd = 0))))) = w28 at *
      refine ⟨K28.out, ⟨below_diff H4'.out C28.out K28.out.size, (show _ = _ from BV28.out).trans (show _ = _ from H3'.out).symm⟩, ?_⟩
      dsimp only; rw [hss.out]; dsimp only
      rw [if_neg HK0.out]
      exact ⟨BO28.out, BD28.out, BV28.out, C28.out⟩
  case done =>
    rintro D xs W hD hxs ⟨i1, i2, i3, i4⟩ hK
    have hxs' : xs = eds n := hxs
    subst hxs'
    have zO := i1.cell 0 (v := .int .u64 (msk (locSt (sideP f g n x y) (eds n)).1)) rfl
    have zD := i2.cell 0 (v := .int .u64 (msk (locSt (sideP f g n x y) (eds n)).2)) rfl
    have H4 := Lib.hid i4; have HK := Lib.hid hK; have HD := Lib.hid hD
    clear i1 i2 i3 i4 hK hD hxs
    gi_wp2_with fail
    try refine ⟨trivial, ?_⟩
    refine CallsIn.mono (n := _) (callsIn_wide.2 (mask_Sign _ _ W (FT_3.out.below H4.out (Nat.le_refl _)))) ?_
    rintro e w9 ⟨rfl, nd, rfl⟩
    rw [locSt_end]
    clear zO zD
    have HK2 := Lib.hid (show (W.drewN nd).heap[D]? = some (.deferred (some [])) from HK.out)
    gi_wp2_with fail
    refine ⟨by simp, .inl ⟨_, _, rfl, run_takeDeferred HK2.out, ?_⟩⟩
    have hB : Below w.heap.size w (W.drewN nd) := (show Below w.heap.size W (W.drewN nd) from ⟨rfl, rfl, rfl, Nat.le_refl _, fun _ _ => rfl⟩) |> fun h => (HB3.out.trans (H4.out.mono HB3.out.size)).trans h
    exact ⟨_, results_tmp rfl _ _ _, rfl, hB.trans (belowK_b (w := w) (Nat.le_refl _) _ D _ _ (by have := HD.out; have := HSZ.out; have := HB3.out.size; omega) HK2.out rfl rfl)⟩

end Go.Proofs.YtjdiilkljgljkaaGreatDoor
namespace Go.Proofs.YtjdiilkljgljkaaGreatDoor
set_option linter.unusedVariables false
set_option linter.unusedSimpArgs false
open Go.RowKit Wd

set_option maxHeartbeats 4000000 in
theorem ref14_side (b off n c : Nat) (f g : Nat → Int) (k : Nat) (x y : Int) (hin : inP n) (hk : k < n) (hx : IsI x) (hy : IsI y) (w : World) (hp : Pts w (some ⟨b, off, none⟩) n c f g) :
    Calls Tryz.prog 97 #[.slice (some ⟨b, off, none⟩) n c, .int .i64 (k : Int), .agg #[.int .i64 x, .int .i64 y]] w fun e w' => e = .returned (.int .i64 (sg (edg f g n k x y))) ∧ Below w.heap.size w w' := by
  have hn3 := hin.1; have hn64 := hin.2
  have hw1 : wrap64 ((k : Int) + 1) = (k : Int) + 1 := by rw [← IntWalk.i64_left, IntKind.wrap_i64]; omega
  have hw2 : IntKind.i64.wrap ((k : Int) + 1) = (k : Int) + 1 := by rw [IntKind.wrap_i64]; omega
  have hk2 : (k + 1) % n < n := Nat.mod_lt _ (by omega)
  have hmod := tmod_nat k n
  have hw3 : wrap64 (((k + 1) % n : Nat) : Int) = (((k + 1) % n : Nat) : Int) := by rw [← IntWalk.i64_left, IntKind.wrap_i64]; omega
  have hw4 : IntKind.i64.wrap (((k + 1) % n : Nat) : Int) = (((k + 1) % n : Nat) : Int) := by rw [IntKind.wrap_i64]; omega
  have hp3 := isIP2 hp hk hk2 hx hy
  have FE := Lib.hid (hp.one hk); have FG := Lib.hid (hp.one hk2)
  have HP := Lib.hid hp3; clear hp3
  have HD := Lib.hid (show edg f g n k x y = det (f k) (g k) (f ((k + 1) % n)) (g ((k + 1) % n)) x y from rfl)
  rw [HD.out]
  have hm := Nat.le_trans hp.cap hp.max
  clear hp HD
  generalize (k + 1) % n = k2 at *
  have hnz : ¬ (n = 0) := by omega
  have HB0 := Lib.hid (Below.refl w.heap.size w)
  go_enter Tryz.func97, Tryz.ntmps97
  go_wp2_with fail
  have B : Below w.heap.size w (w.alloc (.cells #[.int .i64 x, .int .i64 y] 23)) := (HB0.out.alloc HB0.out.size _)
  have C : Below w.heap.size w (w.alloc (.cells #[.int .i64 x, .int .i64 y] 23)) := ((Below.refl w.heap.size w).alloc (Nat.le_refl _) _)
  have X0 : Bx (w.alloc (.cells #[.int .i64 x, .int .i64 y] 23)) (w.heap.size) #[.int .i64 x, .int .i64 y] 23 := by simpa using (Bx.new w #[.int .i64 x, .int .i64 y] 23)
  have FE_1 := Lib.hid (FE.out.below C (Nat.le_refl _))
  have FG_1 := Lib.hid (FG.out.below C (Nat.le_refl _))
  have HB1 := Lib.hid B
  have FP_1 := Lib.hid X0
  clear B C X0 HB0 FE FG
  generalize (w.alloc (.cells #[.int .i64 x, .int .i64 y] 23)) = w1 at *
  have RB1 := Lib.hid (below_drew0 w1)
  have QF1 := Lib.hid (show ∀ w', Below w1.heap.size w1 w' → w'.cell? ⟨b, off + k * 2, none⟩ = some (.int .i64 (f k)) ∧ w'.cell? ⟨b, off + k * 2 + 1, none⟩ = some (.int .i64 (g k)) ∧ w'.cell? ⟨b, off + k2 * 2, none⟩ = some (.int .i64 (f k2)) ∧ w'.cell? ⟨b, off + k2 * 2 + 1, none⟩ = some (.int .i64 (g k2)) ∧ w'.cell? ⟨w.heap.size, 0, none⟩ = some (.int .i64 x) ∧ w'.cell? ⟨w.heap.size, 1, none⟩ = some (.int .i64 y) from fun w' hb => ⟨(FE_1.out.below hb (Nat.le_refl _)).x, (FE_1.out.below hb (Nat.le_refl _)).y, (FG_1.out.below hb (Nat.le_refl _)).x, (FG_1.out.below hb (Nat.le_refl _)).y, (FP_1.out.below hb (Nat.le_refl _)).cell 0 (v := .int .i64 x) rfl, (FP_1.out.below hb (Nat.le_refl _)).cell 1 (v := .int .i64 y) rfl⟩)
  refine wp_region_held_drew (S := fun w' => w'.cell? ⟨b, off + k * 2, none⟩ = some (.int .i64 (f k)) ∧ w'.cell? ⟨b, off + k * 2 + 1, none⟩ = some (.int .i64 (g k)) ∧ w'.cell? ⟨b, off + k2 * 2, none⟩ = some (.int .i64 (f k2)) ∧ w'.cell? ⟨b, off + k2 * 2 + 1, none⟩ = some (.int .i64 (g k2)) ∧ w'.cell? ⟨w.heap.size, 0, none⟩ = some (.int .i64 x) ∧ w'.cell? ⟨w.heap.size, 1, none⟩ = some (.int .i64 y)) (by kernel_rfl) (QF1.out _ RB1.out) (fun hHeld => ?_)
  refine wpAnyH_take (i := 0) (v := ?_) (by simp only [List.getElem?_toArray, List.getElem?_cons_succ, List.getElem?_cons_zero]; rfl) (by kernel_rfl) (by kernel_rfl) (by kernel_rfl) (by intro _ _ _ h; exact h) (Or.inl ⟨by rfl, ?_⟩) hHeld ?_
  rotate_left 1
  · intro w hSw; (try dsimp only at hSw); go_simp; try with_reducible rfl
  try simp only [Act.put, List.setIfInBounds_toArray, List.set_cons_zero, List.set_cons_succ]
  refine wpAnyH_take (i := 1) (v := ?_) (by simp only [List.getElem?_toArray, List.getElem?_cons_succ, List.getElem?_cons_zero]; rfl) (by kernel_rfl) (by kernel_rfl) (by kernel_rfl) (by intro _ _ _ h; exact h) (Or.inl ⟨by rfl, ?_⟩) hHeld ?_
  rotate_left 1
  · intro w hSw; (try dsimp only at hSw); go_simp; try with_reducible rfl
  try simp only [Act.put, List.setIfInBounds_toArray, List.set_cons_zero, List.set_cons_succ]
  refine wpAnyH_take (i := 2) (v := ?_) (by simp only [List.getElem?_toArray, List.getElem?_cons_succ, List.getElem?_cons_zero]; rfl) (by kernel_rfl) (by kernel_rfl) (by kernel_rfl) (by intro _ _ _ h; exact h) (Or.inl ⟨by rfl, ?_⟩) hHeld ?_
  rotate_left 1
  · intro w hSw; (try dsimp only at hSw); go_simp; try with_reducible rfl
  try simp only [Act.put, List.setIfInBounds_toArray, List.set_cons_zero, List.set_cons_succ]
  refine wpAnyH_take (i := 3) (v := ?_) (by simp only [List.getElem?_toArray, List.getElem?_cons_succ, List.getElem?_cons_zero]; rfl) (by kernel_rfl) (by kernel_rfl) (by kernel_rfl) (by intro _ _ _ h; exact h) (Or.inl ⟨by rfl, ?_⟩) hHeld ?_
  rotate_left 1
  · intro w hSw; (try dsimp only at hSw); go_simp; try with_reducible rfl
  try simp only [Act.put, List.setIfInBounds_toArray, List.set_cons_zero, List.set_cons_succ]
  refine wpAnyH_take (i := 4) (v := ?_) (by simp only [List.getElem?_toArray, List.getElem?_cons_succ, List.getElem?_cons_zero]; rfl) (by kernel_rfl) (by kernel_rfl) (by kernel_rfl) (by intro _ _ _ h; exact h) (Or.inl ⟨by rfl, ?_⟩) hHeld ?_
  rotate_left 1
  · intro w hSw; (try dsimp only at hSw); go_simp; try with_reducible rfl
  try simp only [Act.put, List.setIfInBounds_toArray, List.set_cons_zero, List.set_cons_succ]
  refine wpAnyH_take (i := 5) (v := ?_) (by simp only [List.getElem?_toArray, List.getElem?_cons_succ, List.getElem?_cons_zero]; rfl) (by kernel_rfl) (by kernel_rfl) (by kernel_rfl) (by intro _ _ _ h; exact h) (Or.inl ⟨by rfl, ?_⟩) hHeld ?_
  rotate_left 1
  · intro w hSw; (try dsimp only at hSw); go_simp; try with_reducible rfl
  try simp only [Act.put, List.setIfInBounds_toArray, List.set_cons_zero, List.set_cons_succ]
  refine wpAnyH_take (i := 6) (v := ?_) (by simp only [List.getElem?_toArray, List.getElem?_cons_succ, List.getElem?_cons_zero]; rfl) (by kernel_rfl) (by kernel_rfl) (by kernel_rfl) (by intro _ _ _ h; exact h) (Or.inl ⟨by rfl, ?_⟩) hHeld ?_
  rotate_left 1
  · intro w hSw; (try dsimp only at hSw); go_simp; try with_reducible rfl
  try simp only [Act.put, List.setIfInBounds_toArray, List.set_cons_zero, List.set_cons_succ]
  refine wpAnyH_take (i := 7) (v := ?_) (by simp only [List.getElem?_toArray, List.getElem?_cons_succ, List.getElem?_cons_zero]; rfl) (by kernel_rfl) (by kernel_rfl) (by kernel_rfl) (by intro _ _ _ h; exact h) (Or.inl ⟨by rfl, ?_⟩) hHeld ?_
  rotate_left 1
  · intro w hSw; (try dsimp only at hSw); go_simp; try with_reducible rfl
  try simp only [Act.put, List.setIfInBounds_toArray, List.set_cons_zero, List.set_cons_succ]
  refine wpAnyH_take (i := 8) (v := ?_) (by simp only [List.getElem?_toArray, List.getElem?_cons_succ, List.getElem?_cons_zero]; rfl) (by kernel_rfl) (by kernel_rfl) (by kernel_rfl) (by intro _ _ _ h; exact h) (Or.inl ⟨by rfl, ?_⟩) hHeld ?_
  rotate_left 1
  · intro w hSw; (try dsimp only at hSw); go_simp; try with_reducible rfl
  try simp only [Act.put, List.setIfInBounds_toArray, List.set_cons_zero, List.set_cons_succ]
  refine wpAnyH_take (i := 9) (v := ?_) (by simp only [List.getElem?_toArray, List.getElem?_cons_succ, List.getElem?_cons_zero]; rfl) (by kernel_rfl) (by kernel_rfl) (by kernel_rfl) (by intro _ _ _ h; exact h) (Or.inl ⟨by rfl, ?_⟩) hHeld ?_
  rotate_left 1
  · intro w hSw; (try dsimp only at hSw); go_simp; try with_reducible rfl
  try simp only [Act.put, List.setIfInBounds_toArray, List.set_cons_zero, List.set_cons_succ]
  refine wpAnyH_take (i := 10) (v := ?_) (by simp only [List.getElem?_toArray, List.getElem?_cons_succ, List.getElem?_cons_zero]; rfl) (by kernel_rfl) (by kernel_rfl) (by kernel_rfl) (by intro _ _ _ h; exact h) (Or.inl ⟨by rfl, ?_⟩) hHeld ?_
  rotate_left 1
  · intro w hSw; (try dsimp only at hSw); go_simp; try with_reducible rfl
  try simp only [Act.put, List.setIfInBounds_toArray, List.set_cons_zero, List.set_cons_succ]
  refine wpAnyH_take (i := 11) (v := ?_) (by simp only [List.getElem?_toArray, List.getElem?_cons_succ, List.getElem?_cons_zero]; rfl) (by kernel_rfl) (by kernel_rfl) (by kernel_rfl) (by intro _ _ _ h; exact h) (Or.inl ⟨by rfl, ?_⟩) hHeld ?_
  rotate_left 1
  · intro w hSw; (try dsimp only at hSw); go_simp; try with_reducible rfl
  try simp only [Act.put, List.setIfInBounds_toArray, List.set_cons_zero, List.set_cons_succ]
  refine wpAnyH_take (i := 12) (v := ?_) (by simp only [List.getElem?_toArray, List.getElem?_cons_succ, List.getElem?_cons_zero]; rfl) (by kernel_rfl) (by kernel_rfl) (by kernel_rfl) (by intro _ _ _ h; exact h) (Or.inl ⟨by rfl, ?_⟩) hHeld ?_
  rotate_left 1
  · intro w hSw; (try dsimp only at hSw); go_simp; try with_reducible rfl
  try simp only [Act.put, List.setIfInBounds_toArray, List.set_cons_zero, List.set_cons_succ]
  refine wpAnyH_ready (rs := [13]) (by kernel_rfl) (by simp) ?_
  refine AllReadyH.cons (by simp only [List.getElem?_toArray, List.getElem?_cons_succ, List.getElem?_cons_zero]; rfl) (fun K hK => ?_) AllReadyH.nil
  go_simp
  refine (ref6_Sign _ _ _ _ _ _ HP.out _).mono ?_
  rintro e w2 ⟨rfl, B⟩
  have RB2 := Lib.hid (RB1.out.trans (B.mono RB1.out.size))
  clear B 
  go_wp2_with fail
  refine hK.out _ _ (QF1.out _ RB2.out) (fun hHeld2 => ?_)
  clear hK K hHeld; have hHeld := hHeld2; clear hHeld2
  try simp only [Act.put, List.setIfInBounds_toArray, List.set_cons_zero, List.set_cons_succ]
  refine wpAnyH_take (i := 14) (v := ?_) (by simp only [List.getElem?_toArray, List.getElem?_cons_succ, List.getElem?_cons_zero]; rfl) (by kernel_rfl) (by kernel_rfl) (by kernel_rfl) (by intro _ _ _ h; exact h) (Or.inl ⟨by rfl, ?_⟩) hHeld ?_
  rotate_left 1
  · intro w hSw; (try dsimp only at hSw); go_simp; try with_reducible rfl
  try simp only [Act.put, List.setIfInBounds_toArray, List.set_cons_zero, List.set_cons_succ]
  refine wpAnyH_done (by kernel_rfl) ?_ _
  have FE_2 := Lib.hid (FE_1.out.below RB2.out (Nat.le_refl _))
  have FG_2 := Lib.hid (FG_1.out.below RB2.out (Nat.le_refl _))
  have FP_2 := Lib.hid (FP_1.out.below RB2.out (Nat.le_refl _))
  have HB2 := Lib.hid (HB1.out.trans (RB2.out.mono HB1.out.size))
  clear hHeld HB1 FE_1 FG_1 FP_1
  go_wp2_with fail
  go_ret
  exact ⟨rfl, HB2.out⟩

theorem meas_ {n q : Nat} (h : q < n) : n - (intOf (.int .i64 ((q : Int) + 1))).toNat < n - (intOf (.int .i64 (q : Int))).toNat := by
  simp only [intOf]; omega
theorem validP_bad {f g : Nat → Int} {n i j : Nat} (hi : i < n) (hj : j < n) (h1 : j ≠ i) (h2 : j ≠ (i + 1) % n) (h : sg (edg f g n i (f j) (g j)) ≠ ori f g n) : validP f g n = false := by
  cases hv : validP f g n with
  | false => rfl
  | true => exact absurd ((validP_iff.1 hv).2.2 i j hi hj h1 h2) h
theorem validP_end {f g : Nat → Int} {n : Nat} (hin : inP n) (h : ∀ i, i < n → ∀ j, j < n → okAt f g n (ori f g n) i j = true) : validP f g n = !decide (ori f g n = 0) := by
  unfold validP
  rw [show allB (fun i => allB (okAt f g n (ori f g n) i) n) n = true from (allB_iff _ _).2 fun i hi => (allB_iff _ _).2 fun j hj => h i hi j hj, show decide (inP n) = true from by simpa using hin]
  simp
set_option maxRecDepth 20000 in
set_option maxHeartbeats 8000000 in
theorem ref14_Valid (A : Option Addr) (n c : Nat) (f g : Nat → Int) (w : World) (hp : Pts w A n c f g) :
    Calls Tryz.prog 65 #[.slice A n c] w fun e w' => e = .returned (.bool (validP f g n)) ∧ Below w.heap.size w w' := by
  have hm := Nat.le_trans hp.cap hp.max
  have HP := Lib.hid hp
  have HB0 := Lib.hid (Below.refl w.heap.size w)
  by_cases hin : inP n
  rotate_left
  · rw [validP_out hin]
    go_enter Tryz.func65, Tryz.ntmps65
    go_wp2_with fail
    refine (ref14_Is _ n c hm _).mono ?_
    rintro e w1 ⟨rfl, B⟩
    have HB1 := Lib.hid (HB0.out.trans (B.mono HB0.out.size))
    clear B  HB0
    rw [show decide (inP n) = false from by simpa using hin]
    go_wp2_with fail
    go_ret
    exact ⟨rfl, HB1.out⟩
  have hn3 := hin.1; have hn64 := hin.2
  obtain ⟨b, off, rfl⟩ := hp.some (by omega)
  have hr := ori_range f g n
  clear hp
  go_enter Tryz.func65, Tryz.ntmps65
  go_wp2_with fail
  refine (ref14_Is _ n c hm _).mono ?_
  rintro e w1 ⟨rfl, B⟩
  have HB1 := Lib.hid (HB0.out.trans (B.mono HB0.out.size))
  have FX_1 := Lib.hid (HP.out.below B (Nat.le_refl _))
  clear B  HB0 HP
  rw [show decide (inP n) = true from by simpa using hin]
  go_wp2_with fail
  refine (ref14_Orientation _ n c f g _ FX_1.out).mono ?_
  rintro e w2 ⟨rfl, B⟩
  have HB2 := Lib.hid (HB1.out.trans (B.mono HB1.out.size))
  have FX_2 := Lib.hid (FX_1.out.below B (Nat.le_refl _))
  clear B  HB1 FX_1
  have HX := FX_2; have HBX := HB2
  obtain ⟨s, hs_⟩ : ∃ s, s = ori f g n := ⟨_, rfl⟩
  rw [← hs_] at hr ⊢
  have hs := Lib.hid hs_; clear hs_
  go_wp2_with fail
  go_loopw [4] (fun i wr => ∃ k : Nat, k ≤ n ∧ i = .int .i64 (k : Int) ∧ (∀ i, i < k → ∀ j, j < n → okAt f g n s i j = true) ∧ Below w2.heap.size w2 wr) (fun i _ => n - (intOf i).toNat)
  case atStart => exact ⟨0, Nat.zero_le _, rfl, fun _ h => absurd h (Nat.not_lt_zero _), Below.refl _ _⟩
  case round =>
    obtain ⟨k, hk, rfl, hok, hb⟩ := hrel
    by_cases hlt : k < n
    · have hw1 : wrap64 ((k : Int) + 1) = (k : Int) + 1 := by rw [← IntWalk.i64_left, IntKind.wrap_i64]; omega
      have hw2 : IntKind.i64.wrap ((k : Int) + 1) = (k : Int) + 1 := by rw [IntKind.wrap_i64]; omega
      have hk2 : (k + 1) % n < n := Nat.mod_lt _ (by omega)
      have hmod := tmod_nat k n
      have hw3 : wrap64 (((k + 1) % n : Nat) : Int) = (((k + 1) % n : Nat) : Int) := by rw [← IntWalk.i64_left, IntKind.wrap_i64]; omega
      have hw4 : IntKind.i64.wrap (((k + 1) % n : Nat) : Int) = (((k + 1) % n : Nat) : Int) := by rw [IntKind.wrap_i64]; omega
      obtain ⟨k2, hK2_⟩ : ∃ k2, k2 = (k + 1) % n := ⟨_, rfl⟩
      rw [← hK2_] at hk2 hmod hw3 hw4
      have hK2 := Lib.hid hK2_; clear hK2_
      have hnz : ¬ (n = 0) := by omega
      go_wp2_with fail
      go_loopw [5] (fun j wr2 => ∃ q : Nat, q ≤ n ∧ j = .int .i64 (q : Int) ∧ (∀ j, j < q → okAt f g n s k j = true) ∧ Below w2.heap.size w2 wr2) (fun j _ => n - (intOf j).toNat)
      case atStart => exact ⟨0, Nat.zero_le _, rfl, fun _ h => absurd h (Nat.not_lt_zero _), hb⟩
      case round =>
        obtain ⟨q, hq, rfl, hokq, hb2⟩ := hrel
        by_cases hq1 : q < n
        · have hP := Lib.hid (HX.out.below hb2 (Nat.le_refl _))
          have hb2' := Lib.hid hb2; clear hb2
          have done_ : okAt f g n s k q = true → ∀ j, j < q + 1 → okAt f g n s k j = true := fun h j hj => by
            rcases (by omega : j < q ∨ j = q) with h' | rfl
            · exact hokq j h'
            · exact h
          have hokk : okAt f g n s k k = true := by simp [okAt, skip]
          have hok2 : okAt f g n s k k2 = true := by simp [okAt, skip, hK2.out]
          have hms := Lib.hid (meas_ hq1)
          have hpos := Lib.hid (show (.int .i64 ((q : Int) + 1) : Value) = .int .i64 ((q + 1 : Nat) : Int) from by simp)
          by_cases hqk : q = k
          · have hrq := Lib.hid (done_ (by rw [hqk]; exact hokk))
            clear done_ hokk hok2
            go_wp2_with fail
            go_roundw
            case rel => exact ⟨q + 1, hq1, by rw [← hqk]; exact hpos.out, hrq.out, hb2'.out⟩
            case measure => rw [← hqk]; exact hms.out
          by_cases hqk2 : q = k2
          · have hrq := Lib.hid (done_ (by rw [hqk2]; exact hok2))
            clear done_ hokk hok2
            go_wp2_with fail
            go_roundw
            case rel => exact ⟨q + 1, hq1, by rw [← hqk2]; exact hpos.out, hrq.out, hb2'.out⟩
            case measure => rw [← hqk2]; exact hms.out
          have hb1 : ((q : Int) != (k : Int)) = true := by simp; omega
          have hb3 : ((q : Int) != (k2 : Int)) = true := by simp; omega
          have c1 := (hP.out.one hq1).x
          have c2 := (hP.out.one hq1).y
          have hi := hP.out.isi q hq1
          by_cases hts : sg (edg f g n k (f q) (g q)) = s
          · go_wp2_with fail
            refine (ref14_side b off n c f g k (f q) (g q) hin hlt hi.1 hi.2 _ hP.out).mono ?_
            rintro e w9 ⟨rfl, B⟩
            rw [hts]
            have HB9 := Lib.hid (hb2'.out.trans (B.mono hb2'.out.size)); clear B c1 c2
            go_wp2_with fail
            go_roundw
            case rel => exact ⟨q + 1, hq1, hpos.out, done_ (by simp [okAt, hts]), HB9.out⟩
            case measure => exact hms.out
          · go_wp2_with fail
            refine (ref14_side b off n c f g k (f q) (g q) hin hlt hi.1 hi.2 _ hP.out).mono ?_
            rintro e w9 ⟨rfl, B⟩
            have HB9 := Lib.hid (hb2'.out.trans (B.mono hb2'.out.size)); clear B c1 c2
            have hbad := Lib.hid (validP_bad (f := f) (g := g) hlt hq1 hqk (by rw [← hK2.out]; exact hqk2) (by rw [← hs.out]; exact hts))
            generalize sg (edg f g n k (f q) (g q)) = t at *
            have hne : (t != s) = true := by simpa using hts
            go_wp2_with fail
            go_ret
            exact ⟨by rw [hbad.out]; rfl, HBX.out.trans (HB9.out.mono HBX.out.size)⟩
        · have hqn : q = n := by omega
          rw [hqn] at hokq
          have hmk := Lib.hid (meas_ hlt)
          have hpk := Lib.hid (show (.int .i64 ((k : Int) + 1) : Value) = .int .i64 ((k + 1 : Nat) : Int) from by simp)
          have hb2' := Lib.hid hb2; clear hb2
          go_wp2_with fail
          go_roundw
          case rel => exact ⟨k + 1, hlt, hpk.out, fun i hi j hj => by
            rcases Nat.lt_or_eq_of_le (Nat.le_of_lt_succ hi) with h | h
            · exact hok i h j hj
            · rw [h]; exact hokq j hj, hb2'.out⟩
          case measure => exact hmk.out
    · obtain rfl : k = n := by omega
      have he := Lib.hid (validP_end (f := f) (g := g) hin (fun i hi j hj => by rw [← hs.out]; exact hok i hi j hj))
      have hb' := Lib.hid hb; clear hb
      by_cases h0 : s = 0
      · subst h0
        go_wp2_with fail
        go_ret
        exact ⟨by rw [he.out, ← hs.out]; rfl, HBX.out.trans (hb'.out.mono HBX.out.size)⟩
      · go_wp2_with fail
        go_ret
        exact ⟨by rw [he.out, ← hs.out]; simp [h0], HBX.out.trans (hb'.out.mono HBX.out.size)⟩

set_option maxRecDepth 20000 in
set_option maxHeartbeats 8000000 in
theorem ref14_Locate (A : Option Addr) (n c : Nat) (f g : Nat → Int) (x y : Int) (hx : IsI x) (hy : IsI y) (w : World) (hp : Pts w A n c f g) :
    Calls Tryz.prog 99 #[.slice A n c, .agg #[.int .i64 x, .int .i64 y]] w fun e w' => e = .returned (.int .i64 (locP f g n x y)) ∧ Below w.heap.size w w' := by
  have hm := Nat.le_trans hp.cap hp.max
  have HP := Lib.hid hp
  have HB0 := Lib.hid (Below.refl w.heap.size w)
  by_cases hin : inP n
  rotate_left
  · rw [locP_out hin]
    go_enter Tryz.func99, Tryz.ntmps99
    go_wp2_with fail
    have B : Below w.heap.size w (w.alloc (.cells #[.int .i64 x, .int .i64 y] 23)) := (HB0.out.alloc HB0.out.size _)
    have C : Below w.heap.size w (w.alloc (.cells #[.int .i64 x, .int .i64 y] 23)) := ((Below.refl w.heap.size w).alloc (Nat.le_refl _) _)
    have X0 : Bx (w.alloc (.cells #[.int .i64 x, .int .i64 y] 23)) (w.heap.size) #[.int .i64 x, .int .i64 y] 23 := by simpa using (Bx.new w #[.int .i64 x, .int .i64 y] 23)
    have HB1 := Lib.hid B
    have FP_1 := Lib.hid X0
    clear B C X0 HB0 
    generalize (w.alloc (.cells #[.int .i64 x, .int .i64 y] 23)) = w1 at *
    skip
    refine (ref14_Is _ n c hm _).mono ?_
    rintro e w2 ⟨rfl, B⟩
    have HB2 := Lib.hid (HB1.out.trans (B.mono HB1.out.size))
    have FP_2 := Lib.hid (FP_1.out.below B (Nat.le_refl _))
    clear B  HB1 FP_1
    rw [show decide (inP n) = false from by simpa using hin]
    go_wp2_with fail
    go_ret
    exact ⟨rfl, HB2.out⟩
  have hn3 := hin.1; have hn64 := hin.2
  obtain ⟨b, off, rfl⟩ := hp.some (by omega)
  have hr := ori_range f g n
  clear hp
  go_enter Tryz.func99, Tryz.ntmps99
  go_wp2_with fail
  have B : Below w.heap.size w (w.alloc (.cells #[.int .i64 x, .int .i64 y] 23)) := (HB0.out.alloc HB0.out.size _)
  have C : Below w.heap.size w (w.alloc (.cells #[.int .i64 x, .int .i64 y] 23)) := ((Below.refl w.heap.size w).alloc (Nat.le_refl _) _)
  have X0 : Bx (w.alloc (.cells #[.int .i64 x, .int .i64 y] 23)) (w.heap.size) #[.int .i64 x, .int .i64 y] 23 := by simpa using (Bx.new w #[.int .i64 x, .int .i64 y] 23)
  have FX_1 := Lib.hid (HP.out.below C (Nat.le_refl _))
  have HB1 := Lib.hid B
  have FP_1 := Lib.hid X0
  clear B C X0 HB0 HP
  generalize (w.alloc (.cells #[.int .i64 x, .int .i64 y] 23)) = w1 at *
  skip
  refine (ref14_Is _ n c hm _).mono ?_
  rintro e w2 ⟨rfl, B⟩
  have HB2 := Lib.hid (HB1.out.trans (B.mono HB1.out.size))
  have FX_2 := Lib.hid (FX_1.out.below B (Nat.le_refl _))
  have FP_2 := Lib.hid (FP_1.out.below B (Nat.le_refl _))
  clear B  HB1 FX_1 FP_1
  rw [show decide (inP n) = true from by simpa using hin]
  go_wp2_with fail
  refine (ref14_Orientation _ n c f g _ FX_2.out).mono ?_
  rintro e w3 ⟨rfl, B⟩
  have HB3 := Lib.hid (HB2.out.trans (B.mono HB2.out.size))
  have FX_3 := Lib.hid (FX_2.out.below B (Nat.le_refl _))
  have FP_3 := Lib.hid (FP_2.out.below B (Nat.le_refl _))
  clear B  HB2 FX_2 FP_2
  have HX := FX_3; have HBX := HB3; have HPB := FP_3
  obtain ⟨s, hs_⟩ : ∃ s, s = ori f g n := ⟨_, rfl⟩
  rw [← hs_] at hr ⊢
  have hs := Lib.hid hs_; clear hs_
  go_wp2_with fail
  go_loopw [6, 7] (fun o i wr => ∃ k : Nat, k ≤ n ∧ i = .int .i64 (k : Int) ∧ o = .int .i64 (minS (sideP f g n x y) k) ∧ Below w3.heap.size w3 wr) (fun _ i _ => n - (intOf i).toNat)
  case atStart => exact ⟨0, Nat.zero_le _, rfl, rfl, Below.refl _ _⟩
  case round =>
    obtain ⟨k, hk, rfl, rfl, hb⟩ := hrel
    by_cases hlt : k < n
    · have hP := Lib.hid (HX.out.below hb (Nat.le_refl _))
      have c1 := (HPB.out.below hb (Nat.le_refl _)).cell 0 (v := .int .i64 x) rfl
      have c2 := (HPB.out.below hb (Nat.le_refl _)).cell 1 (v := .int .i64 y) rfl
      have hb' := Lib.hid hb; clear hb
      have hms := Lib.hid (meas_ hlt)
      have hpos := Lib.hid (show (.int .i64 ((k : Int) + 1) : Value) = .int .i64 ((k + 1 : Nat) : Int) from by simp)
      have hsd := sideP_range f g n x y k
      have hpr : wrap64 (s * sg (edg f g n k x y)) = sideP f g n x y k := by rw [hs.out, show ori f g n * sg (edg f g n k x y) = sideP f g n x y k from rfl, ← IntWalk.i64_left, IntKind.wrap_i64]; omega
      have hpr2 : IntKind.i64.wrap (s * sg (edg f g n k x y)) = sideP f g n x y k := by rw [hs.out, show ori f g n * sg (edg f g n k x y) = sideP f g n x y k from rfl, IntKind.wrap_i64]; omega
      have hmin := Lib.hid (show minS (sideP f g n x y) (k + 1) = min (minS (sideP f g n x y) k) (sideP f g n x y k) from rfl)
      generalize sideP f g n x y k = sd at *
      generalize hM : minS (sideP f g n x y) k = m0 at *
      clear hM
      go_wp2_with fail
      refine (ref14_side b off n c f g k x y hin hlt hx hy _ hP.out).mono ?_
      rintro e w9 ⟨rfl, B⟩
      have HB9 := Lib.hid (hb'.out.trans (B.mono hb'.out.size)); clear B c1 c2
      generalize sg (edg f g n k x y) = t at *
      go_wp2_with fail
      go_roundw
      case rel => exact ⟨k + 1, hlt, hpos.out, by rw [hmin.out, show min m0 sd = if sd < m0 then sd else m0 from by rw [Int.min_def]; split <;> split <;> omega], HB9.out⟩
      case measure => exact hms.out
    · have hkn : k = n := by omega
      have he := Lib.hid (locP_in (f := f) (g := g) (x := x) (y := y) hin)
      have hb' := Lib.hid hb; clear hb
      go_wp2_with fail
      go_ret
      exact ⟨by rw [he.out, ← hkn]; rfl, HBX.out.trans (hb'.out.mono HBX.out.size)⟩

end Go.Proofs.YtjdiilkljgljkaaGreatDoor
