/- The engine's answer to a fence request. The response to a fence request, and serve's Handle. What Decode keeps while it reads regions. Plain facts; no program's run. The codec's Decode at a fence request. Contracts of serve's Traced and Serve at a fence request. The public parts of regions; the bounds of the tests. The reference's bytes of a header with regions (operation 4). -/
import Derived.Test.YtjdiilkljgljkaaGreatDoorMj
import Derived.Test.YtjdiilkljgljkaaGreatDoorMi
import Derived.Test.YtjdiilkljgljkaaGreatDoorMd
import Derived.Test.YtjdiilkljgljkaaGreatDoorMa
import Derived.Laws.EntriesVeiled
import Derived.Test.YtjdiilkljgljkaaGreatDoorMe
import Derived.Defers
import Derived.Recover
import Derived.Deep.DeepCutAuto
import Derived.Lib.MinMax
namespace Go.Proofs.YtjdiilkljgljkaaGreatDoor
set_option linter.unusedVariables false
set_option linter.unusedSimpArgs false
open Go.RowKit Wd


set_option maxHeartbeats 4000000 in
set_option maxRecDepth 100000 in
theorem engine_op4 (HA : Option Addr) (hc : Nat) (Qh : Nat → Option Addr × Nat × Nat) (A : Option Addr) (n c : Nat) (d : Nat → Bool) (v : Nat → Int) (Q : Nat → Option Addr × Nat × Nat) (F G : Nat → Nat → Int) (pb pc : Nat) (f g : Nat → Int) (QA : Option Addr) (qc : Nat) (w : World) (hT : TabM w) (hh : Rgs w HA n hc d v Qh) (hq : ∀ k, k < n → (Qh k).2.1 = 0) (hr : Rgs w A n c d v Q) (hp : RgP w n Q F G) (ho : OkR n v Q) (hpp : Pts w (some ⟨pb, 0, none⟩) 1 pc f g) :
    Calls Tryz.prog 147 #[.pointer none, .agg #[.int .i64 4, .int .i64 0, .slice HA n hc, .int .i64 0, .slice A n c, .slice (some ⟨pb, 0, none⟩) 1 pc, .slice QA 0 qc]] w fun e w' => e = .returned (.int .i64 (fenA (allB (vR v Q F G) n) (memR d (lR v Q F G (f 0) (g 0)) n))) ∧ Below w.heap.size w w' := by
  have HB0 := Lib.hid (Below.refl w.heap.size w); have FT := Lib.hid hT; have FH := Lib.hid hh; have HQ := Lib.hid hq; have FG := Lib.hid hr; have FP := Lib.hid hp; have HO := Lib.hid ho; have FX := Lib.hid hpp
  have hcp3 := hpp.cap; have hmx3 := hpp.max; unfold maxLen at hmx3
  have HIX := Lib.hid (hpp.isi 0 (by decide))
  clear hT hh hq hr hp ho hpp
  go_enter Tryz.func147, Tryz.ntmps147
  go_wp2_with fail
  have B : Below w.heap.size w (w.alloc (.cells #[.int .i64 4, .int .i64 0, .slice HA n hc, .int .i64 0, .slice A n c, .slice (some ⟨pb, 0, none⟩) 1 pc, .slice QA 0 qc] 99)) := (HB0.out.alloc HB0.out.size _)
  have C : Below w.heap.size w (w.alloc (.cells #[.int .i64 4, .int .i64 0, .slice HA n hc, .int .i64 0, .slice A n c, .slice (some ⟨pb, 0, none⟩) 1 pc, .slice QA 0 qc] 99)) := ((Below.refl w.heap.size w).alloc (Nat.le_refl _) _)
  have X0 : Bx (w.alloc (.cells #[.int .i64 4, .int .i64 0, .slice HA n hc, .int .i64 0, .slice A n c, .slice (some ⟨pb, 0, none⟩) 1 pc, .slice QA 0 qc] 99)) (w.heap.size) #[.int .i64 4, .int .i64 0, .slice HA n hc, .int .i64 0, .slice A n c, .slice (some ⟨pb, 0, none⟩) 1 pc, .slice QA 0 qc] 99 := by simpa using (Bx.new w #[.int .i64 4, .int .i64 0, .slice HA n hc, .int .i64 0, .slice A n c, .slice (some ⟨pb, 0, none⟩) 1 pc, .slice QA 0 qc] 99)
  have FT_1 := Lib.hid (FT.out.below C (Nat.le_refl _))
  have FH_1 := Lib.hid (FH.out.below C (Nat.le_refl _))
  have FG_1 := Lib.hid (FG.out.below C (Nat.le_refl _))
  have FP_1 := Lib.hid (FP.out.below C (Nat.le_refl _))
  have FX_1 := Lib.hid (FX.out.below C (Nat.le_refl _))
  have HB1 := Lib.hid B
  have FR_1 := Lib.hid X0
  clear B C X0 HB0 FT FH FG FP FX
  generalize (w.alloc (.cells #[.int .i64 4, .int .i64 0, .slice HA n hc, .int .i64 0, .slice A n c, .slice (some ⟨pb, 0, none⟩) 1 pc, .slice QA 0 qc] 99)) = w1 at *
  skip
  refine (wpIn_wide (n := 0)).1 ?_
  refine wpIn_region_any (by kernel_rfl) ?_
  change wpAnyIn _ _ _ _ _ _ _ _ _ (World.drew _)
  have RB1 := Lib.hid (below_drew0 w1)
  refine wpAnyIn_tail WideF.wide (fun a b => Below a.heap.size a b) (fun _ => below_rf) (fun _ _ _ h k => below_tr h k) [⟨0, 5, fun z_ _ => z_ = .pointer none⟩, ⟨1, 6, fun z_ _ => z_ = .pointer (some ⟨w.heap.size, 4, none⟩)⟩, ⟨2, 7, fun z_ _ => z_ = .slice A n c⟩, ⟨3, 8, fun z_ _ => z_ = .pointer (some ⟨w.heap.size, 5, none⟩)⟩, ⟨4, 9, fun z_ _ => z_ = .slice (some ⟨pb, 0, none⟩) 1 pc⟩, ⟨5, 10, fun z_ _ => z_ = .pointer (some ⟨pb, 0, none⟩)⟩, ⟨6, 11, fun z_ _ => z_ = .agg #[.int .i64 (f 0), .int .i64 (g 0)]⟩, ⟨7, 12, fun z_ _ => z_ = .int .i64 (fenA (allB (vR v Q F G) n) (memR d (lR v Q F G (f 0) (g 0)) n))⟩, ⟨8, 4, fun z_ _ => z_ = .int .i64 (fenA (allB (vR v Q F G) n) (memR d (lR v Q F G (f 0) (g 0)) n))⟩] 9 (by kernel_rfl) ?_ ?_ ?_
  · refine ⟨?_, ?_, ?_, ?_, ?_, ?_, ?_, ?_, ?_, trivial⟩
    all_goals (intro x w w' hb h; first | exact h | (obtain ⟨b_, h1, h2⟩ := h; exact ⟨b_, h1, h2.below hb (Nat.le_refl _)⟩))
  · refine ⟨?_, ?_, ?_, ?_, ?_, ?_, ?_, ?_, ?_, trivial⟩
    · intro a wz K hb ht hd hK
      have hbw := Lib.hid (below_tr RB1.out hb); clear hb
      have hx0 := (ht 0 rfl).trans rfl
      have es0 : a.tmps.getD 0 undef = _ := getD_of hx0; clear hx0
      clear ht hd
      have HK := Lib.hid hK; clear hK
      refine wpOpP_step (by simp only [List.getElem?_toArray, List.getElem?_cons_succ, List.getElem?_cons_zero]; rfl) (fun K' hK' => ?_)
      have HK' := Lib.hid hK'; clear hK'
      go_simp
      exact HK'.out _ _ (HK.out _ _ below_rf rfl)
    · intro a wz K hb ht hd hK
      have hbw := Lib.hid (below_tr RB1.out hb); clear hb
      have hx3 := (ht 3 rfl).trans rfl
      have es3 : a.tmps.getD 3 undef = _ := getD_of hx3; clear hx3
      clear ht hd
      have HK := Lib.hid hK; clear hK
      refine wpOpP_step (by simp only [List.getElem?_toArray, List.getElem?_cons_succ, List.getElem?_cons_zero]; rfl) (fun K' hK' => ?_)
      have HK' := Lib.hid hK'; clear hK'
      go_simp
      exact HK'.out _ _ (HK.out _ _ below_rf rfl)
    · intro a wz K hb ht hd hK
      have hbw := Lib.hid (below_tr RB1.out hb); clear hb
      obtain ⟨x6, hx6, hp6⟩ := hd 1 _ rfl (by kernel_rfl)
      obtain rfl := hp6
      have es6 : a.tmps.getD 6 undef = _ := getD_of hx6; clear hx6
      clear ht hd
      have zc0 := (FR_1.out.below hbw.out (Nat.le_refl _)).cell 4 (v := .slice A n c) rfl
      have HK := Lib.hid hK; clear hK
      refine wpOpP_step (by simp only [List.getElem?_toArray, List.getElem?_cons_succ, List.getElem?_cons_zero]; rfl) (fun K' hK' => ?_)
      have HK' := Lib.hid hK'; clear hK'
      go_simp
      exact HK'.out _ _ (HK.out _ _ below_rf rfl)
    · intro a wz K hb ht hd hK
      have hbw := Lib.hid (below_tr RB1.out hb); clear hb
      have hx3 := (ht 3 rfl).trans rfl
      have es3 : a.tmps.getD 3 undef = _ := getD_of hx3; clear hx3
      clear ht hd
      have HK := Lib.hid hK; clear hK
      refine wpOpP_step (by simp only [List.getElem?_toArray, List.getElem?_cons_succ, List.getElem?_cons_zero]; rfl) (fun K' hK' => ?_)
      have HK' := Lib.hid hK'; clear hK'
      go_simp
      exact HK'.out _ _ (HK.out _ _ below_rf rfl)
    · intro a wz K hb ht hd hK
      have hbw := Lib.hid (below_tr RB1.out hb); clear hb
      obtain ⟨x8, hx8, hp8⟩ := hd 3 _ rfl (by kernel_rfl)
      obtain rfl := hp8
      have es8 : a.tmps.getD 8 undef = _ := getD_of hx8; clear hx8
      clear ht hd
      have zc0 := (FR_1.out.below hbw.out (Nat.le_refl _)).cell 5 (v := .slice (some ⟨pb, 0, none⟩) 1 pc) rfl
      have HK := Lib.hid hK; clear hK
      refine wpOpP_step (by simp only [List.getElem?_toArray, List.getElem?_cons_succ, List.getElem?_cons_zero]; rfl) (fun K' hK' => ?_)
      have HK' := Lib.hid hK'; clear hK'
      go_simp
      exact HK'.out _ _ (HK.out _ _ below_rf rfl)
    · intro a wz K hb ht hd hK
      have hbw := Lib.hid (below_tr RB1.out hb); clear hb
      obtain ⟨x9, hx9, hp9⟩ := hd 4 _ rfl (by kernel_rfl)
      obtain rfl := hp9
      have es9 : a.tmps.getD 9 undef = _ := getD_of hx9; clear hx9
      clear ht hd
      have HK := Lib.hid hK; clear hK
      refine wpOpP_step (by simp only [List.getElem?_toArray, List.getElem?_cons_succ, List.getElem?_cons_zero]; rfl) (fun K' hK' => ?_)
      have HK' := Lib.hid hK'; clear hK'
      go_simp
      exact HK'.out _ _ (HK.out _ _ below_rf rfl)
    · intro a wz K hb ht hd hK
      have hbw := Lib.hid (below_tr RB1.out hb); clear hb
      obtain ⟨x10, hx10, hp10⟩ := hd 5 _ rfl (by kernel_rfl)
      obtain rfl := hp10
      have es10 : a.tmps.getD 10 undef = _ := getD_of hx10; clear hx10
      clear ht hd
      have zc0 := (FX_1.out.below hbw.out (Nat.le_refl _)).x0 (by decide)
      have zc1 := (FX_1.out.below hbw.out (Nat.le_refl _)).y0 (by decide)
      have HK := Lib.hid hK; clear hK
      refine wpOpP_step (by simp only [List.getElem?_toArray, List.getElem?_cons_succ, List.getElem?_cons_zero]; rfl) (fun K' hK' => ?_)
      have HK' := Lib.hid hK'; clear hK'
      go_simp
      exact HK'.out _ _ (HK.out _ _ below_rf rfl)
    · intro a wz K hb ht hd hK
      have hbw := Lib.hid (below_tr RB1.out hb); clear hb
      obtain ⟨x5, hx5, hp5⟩ := hd 0 _ rfl (by kernel_rfl)
      obtain rfl := hp5
      have es5 : a.tmps.getD 5 undef = _ := getD_of hx5; clear hx5
      obtain ⟨x7, hx7, hp7⟩ := hd 2 _ rfl (by kernel_rfl)
      obtain rfl := hp7
      have es7 : a.tmps.getD 7 undef = _ := getD_of hx7; clear hx7
      obtain ⟨x11, hx11, hp11⟩ := hd 6 _ rfl (by kernel_rfl)
      obtain rfl := hp11
      have es11 : a.tmps.getD 11 undef = _ := getD_of hx11; clear hx11
      clear ht hd
      have HK := Lib.hid hK; clear hK
      refine wpOpP_step (by simp only [List.getElem?_toArray, List.getElem?_cons_succ, List.getElem?_cons_zero]; rfl) (fun K' hK' => ?_)
      have HK' := Lib.hid hK'; clear hK'
      go_simp
      refine (engine_Fence A n c d v Q F G (f 0) (g 0) HIX.out.1 HIX.out.2 _ (FT_1.out.below hbw.out (Nat.le_refl _)) (FG_1.out.below hbw.out (Nat.le_refl _)) (FP_1.out.below hbw.out (Nat.le_refl _)) HO.out).mono ?_
      rintro e w1 ⟨rfl, B⟩
      go_wp2_with fail
      exact HK'.out _ _ (HK.out _ _ B rfl)
    · intro a wz K hb ht hd hK
      have hbw := Lib.hid (below_tr RB1.out hb); clear hb
      obtain ⟨x12, hx12, hp12⟩ := hd 7 _ rfl (by kernel_rfl)
      obtain rfl := hp12
      have es12 : a.tmps.getD 12 undef = _ := getD_of hx12; clear hx12
      clear ht hd
      have HK := Lib.hid hK; clear hK
      refine wpOpP_step (by simp only [List.getElem?_toArray, List.getElem?_cons_succ, List.getElem?_cons_zero]; rfl) (fun K' hK' => ?_)
      have HK' := Lib.hid hK'; clear hK'
      go_simp
      exact HK'.out _ _ (HK.out _ _ below_rf rfl)
  intro w2 X hb hv
  simp only [List.foldl_cons, List.foldl_nil, Act.put, List.setIfInBounds_toArray, List.set_cons_zero, List.set_cons_succ, List.toList_toArray, List.drop_succ_cons, List.drop_zero]
  obtain ⟨hv0, hv1, hv2, hv3, hv4, hv5, hv6, hv7, hv8, -⟩ := hv
  have hV0 : (fun z_ _ => z_ = .pointer none) (X 5) w2 := hv0; clear hv0; have hv0 := hV0; clear hV0; generalize X 5 = X5 at *
  have hV1 : (fun z_ _ => z_ = .pointer (some ⟨w.heap.size, 4, none⟩)) (X 6) w2 := hv1; clear hv1; have hv1 := hV1; clear hV1; generalize X 6 = X6 at *
  have hV2 : (fun z_ _ => z_ = .slice A n c) (X 7) w2 := hv2; clear hv2; have hv2 := hV2; clear hV2; generalize X 7 = X7 at *
  have hV3 : (fun z_ _ => z_ = .pointer (some ⟨w.heap.size, 5, none⟩)) (X 8) w2 := hv3; clear hv3; have hv3 := hV3; clear hV3; generalize X 8 = X8 at *
  have hV4 : (fun z_ _ => z_ = .slice (some ⟨pb, 0, none⟩) 1 pc) (X 9) w2 := hv4; clear hv4; have hv4 := hV4; clear hV4; generalize X 9 = X9 at *
  have hV5 : (fun z_ _ => z_ = .pointer (some ⟨pb, 0, none⟩)) (X 10) w2 := hv5; clear hv5; have hv5 := hV5; clear hV5; generalize X 10 = X10 at *
  have hV6 : (fun z_ _ => z_ = .agg #[.int .i64 (f 0), .int .i64 (g 0)]) (X 11) w2 := hv6; clear hv6; have hv6 := hV6; clear hV6; generalize X 11 = X11 at *
  have hV7 : (fun z_ _ => z_ = .int .i64 (fenA (allB (vR v Q F G) n) (memR d (lR v Q F G (f 0) (g 0)) n))) (X 12) w2 := hv7; clear hv7; have hv7 := hV7; clear hV7; generalize X 12 = X12 at *
  have hV8 : (fun z_ _ => z_ = .int .i64 (fenA (allB (vR v Q F G) n) (memR d (lR v Q F G (f 0) (g 0)) n))) (X 4) w2 := hv8; clear hv8; have hv8 := hV8; clear hV8; generalize X 4 = X4 at *
  obtain rfl := hv0
  obtain rfl := hv1
  obtain rfl := hv2
  obtain rfl := hv3
  obtain rfl := hv4
  obtain rfl := hv5
  obtain rfl := hv6
  obtain rfl := hv7
  obtain rfl := hv8
  have RC := Lib.hid (below_tr RB1.out hb); clear hb
  have FT_2 := Lib.hid (FT_1.out.below RC.out (Nat.le_refl _))
  have FH_2 := Lib.hid (FH_1.out.below RC.out (Nat.le_refl _))
  have FG_2 := Lib.hid (FG_1.out.below RC.out (Nat.le_refl _))
  have FP_2 := Lib.hid (FP_1.out.below RC.out (Nat.le_refl _))
  have FX_2 := Lib.hid (FX_1.out.below RC.out (Nat.le_refl _))
  have FR_2 := Lib.hid (FR_1.out.below RC.out (Nat.le_refl _))
  have HB2 := Lib.hid (HB1.out.trans (RC.out.mono HB1.out.size))
  clear HB1 FT_1 FH_1 FG_1 FP_1 FX_1 FR_1 RB1
  refine wpListIn_nil ?_
  go_wp2_with fail
  go_ret
  exact ⟨rfl, HB2.out⟩
set_option maxHeartbeats 4000000 in
set_option maxRecDepth 100000 in
theorem engine_Answer4 (HA : Option Addr) (hc : Nat) (Qh : Nat → Option Addr × Nat × Nat) (A : Option Addr) (n c : Nat) (d : Nat → Bool) (v : Nat → Int) (Q : Nat → Option Addr × Nat × Nat) (F G : Nat → Nat → Int) (pb pc : Nat) (f g : Nat → Int) (QA : Option Addr) (qc : Nat) (w : World) (hT : TabM w) (hh : Rgs w HA n hc d v Qh) (hq : ∀ k, k < n → (Qh k).2.1 = 0) (hr : Rgs w A n c d v Q) (hp : RgP w n Q F G) (ho : OkR n v Q) (hpp : Pts w (some ⟨pb, 0, none⟩) 1 pc f g) :
    Calls Tryz.prog 87 #[.pointer none, .agg #[.int .i64 4, .int .i64 0, .slice HA n hc, .int .i64 0, .slice A n c, .slice (some ⟨pb, 0, none⟩) 1 pc, .slice QA 0 qc]] w fun e w' => e = .returned (.tuple #[.agg #[.int .i64 (fenA (allB (vR v Q F G) n) (memR d (lR v Q F G (f 0) (g 0)) n)), .int .i64 0, .slice none 0 0], .int .i64 0]) ∧ Below w.heap.size w w' := by
  have HB0 := Lib.hid (Below.refl w.heap.size w); have FT := Lib.hid hT; have FH := Lib.hid hh; have HQ := Lib.hid hq; have FG := Lib.hid hr; have FP := Lib.hid hp; have HO := Lib.hid ho; have FX := Lib.hid hpp
  have hcp3 := hpp.cap; have hmx3 := hpp.max; unfold maxLen at hmx3
  have HIX := Lib.hid (hpp.isi 0 (by decide))
  clear hT hh hq hr hp ho hpp
  go_enter Tryz.func87, Tryz.ntmps87
  go_wp2_with fail
  have B : Below w.heap.size w ((w.alloc (.cells #[.int .i64 4, .int .i64 0, .slice HA n hc, .int .i64 0, .slice A n c, .slice (some ⟨pb, 0, none⟩) 1 pc, .slice QA 0 qc] 99)).alloc (.cells #[.int .i64 0, .int .i64 0, .slice none 0 0] 102)) := ((HB0.out.alloc HB0.out.size _).alloc (HB0.out.alloc HB0.out.size _).size _)
  have C : Below w.heap.size w ((w.alloc (.cells #[.int .i64 4, .int .i64 0, .slice HA n hc, .int .i64 0, .slice A n c, .slice (some ⟨pb, 0, none⟩) 1 pc, .slice QA 0 qc] 99)).alloc (.cells #[.int .i64 0, .int .i64 0, .slice none 0 0] 102)) := (((Below.refl w.heap.size w).alloc (Nat.le_refl _) _).alloc (by simp; try omega) _)
  have X0 : Bx ((w.alloc (.cells #[.int .i64 4, .int .i64 0, .slice HA n hc, .int .i64 0, .slice A n c, .slice (some ⟨pb, 0, none⟩) 1 pc, .slice QA 0 qc] 99)).alloc (.cells #[.int .i64 0, .int .i64 0, .slice none 0 0] 102)) (w.heap.size) #[.int .i64 4, .int .i64 0, .slice HA n hc, .int .i64 0, .slice A n c, .slice (some ⟨pb, 0, none⟩) 1 pc, .slice QA 0 qc] 99 := by simpa using ((Bx.new w #[.int .i64 4, .int .i64 0, .slice HA n hc, .int .i64 0, .slice A n c, .slice (some ⟨pb, 0, none⟩) 1 pc, .slice QA 0 qc] 99).alloc _)
  have X1 : Bx ((w.alloc (.cells #[.int .i64 4, .int .i64 0, .slice HA n hc, .int .i64 0, .slice A n c, .slice (some ⟨pb, 0, none⟩) 1 pc, .slice QA 0 qc] 99)).alloc (.cells #[.int .i64 0, .int .i64 0, .slice none 0 0] 102)) (w.heap.size + 1) #[.int .i64 0, .int .i64 0, .slice none 0 0] 102 := by simpa using (Bx.new (w.alloc (.cells #[.int .i64 4, .int .i64 0, .slice HA n hc, .int .i64 0, .slice A n c, .slice (some ⟨pb, 0, none⟩) 1 pc, .slice QA 0 qc] 99)) #[.int .i64 0, .int .i64 0, .slice none 0 0] 102)
  have FT_1 := Lib.hid (FT.out.below C (Nat.le_refl _))
  have FH_1 := Lib.hid (FH.out.below C (Nat.le_refl _))
  have FG_1 := Lib.hid (FG.out.below C (Nat.le_refl _))
  have FP_1 := Lib.hid (FP.out.below C (Nat.le_refl _))
  have FX_1 := Lib.hid (FX.out.below C (Nat.le_refl _))
  have HB1 := Lib.hid B
  have FR_1 := Lib.hid X0
  have FZ_1 := Lib.hid X1
  clear B C X0 X1 HB0 FT FH FG FP FX
  generalize ((w.alloc (.cells #[.int .i64 4, .int .i64 0, .slice HA n hc, .int .i64 0, .slice A n c, .slice (some ⟨pb, 0, none⟩) 1 pc, .slice QA 0 qc] 99)).alloc (.cells #[.int .i64 0, .int .i64 0, .slice none 0 0] 102)) = w1 at *
  have vR0 := FR_1.out.cell 0 (v := .int .i64 4) rfl
  have vR1 := FR_1.out.cell 1 (v := .int .i64 0) rfl
  have vR2 := FR_1.out.cell 2 (v := .slice HA n hc) rfl
  have vR3 := FR_1.out.cell 3 (v := .int .i64 0) rfl
  have vR4 := FR_1.out.cell 4 (v := .slice A n c) rfl
  have vR5 := FR_1.out.cell 5 (v := .slice (some ⟨pb, 0, none⟩) 1 pc) rfl
  have vR6 := FR_1.out.cell 6 (v := .slice QA 0 qc) rfl
  go_wp2_with fail
  refine (codec_Encode4 HA hc Qh A n c d v Q F G (some ⟨pb, 0, none⟩) pc f g QA qc _ FH_1.out HQ.out FG_1.out FP_1.out HO.out FX_1.out).mono ?_
  rintro e w2 ⟨⟨v_, rfl⟩, B⟩
  clear vR0 vR1 vR2 vR3 vR4 vR5 vR6
  have HB2 := Lib.hid (HB1.out.trans (B.mono HB1.out.size))
  have FT_2 := Lib.hid (FT_1.out.below B (Nat.le_refl _))
  have FH_2 := Lib.hid (FH_1.out.below B (Nat.le_refl _))
  have FG_2 := Lib.hid (FG_1.out.below B (Nat.le_refl _))
  have FP_2 := Lib.hid (FP_1.out.below B (Nat.le_refl _))
  have FX_2 := Lib.hid (FX_1.out.below B (Nat.le_refl _))
  have FR_2 := Lib.hid (FR_1.out.below B (Nat.le_refl _))
  have FZ_2 := Lib.hid (FZ_1.out.below B (Nat.le_refl _))
  clear B  HB1 FT_1 FH_1 FG_1 FP_1 FX_1 FR_1 FZ_1
  go_wp2_with fail
  have RB2 := Lib.hid (below_drew0 w2)
  refine wp_region_held_drew (S := fun _ => True) (by kernel_rfl) trivial (fun _ => ?_)
  refine wpAnyH_gen [(⟨8, 9, 8, 180, #[.nilFunc], []⟩, fun cs w => cs = #[.func (.func 147) #[] #[]])] [⟨0, 20, fun x w => ∃ m : Nat, x = .map (some m) ∧ OpsM w m⟩, ⟨1, 21, fun z_ _ => z_ = .pointer (some ⟨w.heap.size, 0, none⟩)⟩, ⟨2, 22, fun z_ _ => z_ = .pointer (some ⟨w.heap.size, 0, none⟩)⟩, ⟨3, 23, fun z_ _ => z_ = .int .i64 4⟩, ⟨4, 24, fun z_ _ => z_ = .tuple #[.agg #[.func (.func 147) #[] #[]], .bool true]⟩, ⟨5, 19, fun z_ _ => z_ = .tuple #[.agg #[.func (.func 147) #[] #[]], .bool true]⟩, ⟨6, 25, fun z_ _ => z_ = .agg #[.func (.func 147) #[] #[]]⟩, ⟨7, 26, fun z_ _ => z_ = .bool true⟩, ⟨10, 9, fun z_ _ => z_ = .bool true⟩] (by kernel_rfl) (by kernel_rfl) (fun _ => trivial) ?_ ?_ ?_ ?_ ?_ ?_
  · refine ⟨?_, trivial⟩
    all_goals exact ⟨fun cs => by (dsimp only; repeat (first | exact Stay.const _ | exact Stay.sl _ _ _ _ | exact Stay.nm _ _ _ _ | exact Stay.bx _ _ _ _ | exact Stay.ops _ | refine Stay.ex fun _ => ?_ | refine Stay.and ?_ ?_)), by dsimp only; decide, by simp [NoU]⟩
  · refine ⟨?_, ?_, ?_, ?_, ?_, ?_, ?_, ?_, ?_, trivial⟩
    all_goals (intro x; (dsimp only; repeat (first | exact Stay.const _ | exact Stay.sl _ _ _ _ | exact Stay.nm _ _ _ _ | exact Stay.bx _ _ _ _ | exact Stay.ops _ | refine Stay.ex fun _ => ?_ | refine Stay.and ?_ ?_)))
  · refine ⟨?_, trivial⟩
    all_goals (intro a w K h; refine wpOp_step (by simp only [List.getElem?_toArray, List.getElem?_cons_succ, List.getElem?_cons_zero]; rfl) (fun K' hK => ?_); go_simp; exact hK _ _ h)
  · refine ⟨?_, trivial⟩
    · intro a w B K ht hd hs hb hK
      obtain ⟨x25, hx25, hp25⟩ := hd 6 _ rfl (by kernel_rfl)
      obtain rfl := hp25
      have es25 : a.tmps.getD 25 undef = _ := getD_of hx25; clear hx25
      clear ht hd
      have zc0 := hb.cell 0 (v := .nilFunc) rfl; have zf0 := hb.free 0
      have HK := Lib.hid (hK [.func (.func 147) #[] #[]] rfl (by simp [NoU]) rfl); clear hK hb
      simp only [ptrTo] at hs
      have esB : a.tmps.getD 8 undef = _ := getD_of hs; clear hs
      refine wpOp_step (by simp only [List.getElem?_toArray, List.getElem?_cons_succ, List.getElem?_cons_zero]; rfl) (fun K' hK' => ?_)
      go_simp
      exact hK' _ _ HK.out
  · refine ⟨?_, ?_, ?_, ?_, ?_, ?_, ?_, ?_, ?_, trivial⟩
    · intro a w K hb ht hd hK
      have hbw := Lib.hid (below_tr RB2.out hb); clear hb
      clear ht hd
      have HK := Lib.hid hK; clear hK
      refine wpOp_step (by simp only [List.getElem?_toArray, List.getElem?_cons_succ, List.getElem?_cons_zero]; rfl) (fun K' hK' => ?_)
      have HK' := Lib.hid hK'; clear hK'
      go_simp
      refine (engine_operations _).mono ?_
      rintro e w1 ⟨rfl, hm, B⟩
      go_wp2_with fail
      exact HK'.out _ _ (HK.out _ _ B ⟨_, rfl, hm⟩)
    · intro a w K hb ht hd hK
      have hbw := Lib.hid (below_tr RB2.out hb); clear hb
      have hx3 := (ht 3 rfl).trans rfl
      have es3 : a.tmps.getD 3 undef = _ := getD_of hx3; clear hx3
      clear ht hd
      have HK := Lib.hid hK; clear hK
      refine wpOp_step (by simp only [List.getElem?_toArray, List.getElem?_cons_succ, List.getElem?_cons_zero]; rfl) (fun K' hK' => ?_)
      have HK' := Lib.hid hK'; clear hK'
      go_simp
      exact HK'.out _ _ (HK.out _ _ below_rf rfl)
    · intro a w K hb ht hd hK
      have hbw := Lib.hid (below_tr RB2.out hb); clear hb
      obtain ⟨x21, hx21, hp21⟩ := hd 1 _ rfl (by kernel_rfl)
      obtain rfl := hp21
      have es21 : a.tmps.getD 21 undef = _ := getD_of hx21; clear hx21
      clear ht hd
      have HK := Lib.hid hK; clear hK
      refine wpOp_step (by simp only [List.getElem?_toArray, List.getElem?_cons_succ, List.getElem?_cons_zero]; rfl) (fun K' hK' => ?_)
      have HK' := Lib.hid hK'; clear hK'
      go_simp
      exact HK'.out _ _ (HK.out _ _ below_rf rfl)
    · intro a w K hb ht hd hK
      have hbw := Lib.hid (below_tr RB2.out hb); clear hb
      obtain ⟨x22, hx22, hp22⟩ := hd 2 _ rfl (by kernel_rfl)
      obtain rfl := hp22
      have es22 : a.tmps.getD 22 undef = _ := getD_of hx22; clear hx22
      clear ht hd
      have zc0 := (FR_2.out.below hbw.out (Nat.le_refl _)).cell 0 (v := .int .i64 4) rfl
      have HK := Lib.hid hK; clear hK
      refine wpOp_step (by simp only [List.getElem?_toArray, List.getElem?_cons_succ, List.getElem?_cons_zero]; rfl) (fun K' hK' => ?_)
      have HK' := Lib.hid hK'; clear hK'
      go_simp
      exact HK'.out _ _ (HK.out _ _ below_rf rfl)
    · intro a w K hb ht hd hK
      have hbw := Lib.hid (below_tr RB2.out hb); clear hb
      obtain ⟨x20, hx20, hp20⟩ := hd 0 _ rfl (by kernel_rfl)
      obtain ⟨mb20, rfl, S20⟩ := hp20
      have es20 : a.tmps.getD 20 undef = _ := getD_of hx20; clear hx20
      obtain ⟨x23, hx23, hp23⟩ := hd 3 _ rfl (by kernel_rfl)
      obtain rfl := hp23
      have es23 : a.tmps.getD 23 undef = _ := getD_of hx23; clear hx23
      clear ht hd
      have HK := Lib.hid hK; clear hK
      have hlk := run_lookup_at (P := Tryz.prog) Tryz.underlying182 Tryz.underlying3 w mb20 opE 4 4 (.agg #[.func (.func 147) #[] #[]]) 3 S20 rfl
      refine wpOp_step (by simp only [List.getElem?_toArray, List.getElem?_cons_succ, List.getElem?_cons_zero]; rfl) (fun K' hK' => ?_)
      have HK' := Lib.hid hK'; clear hK'
      go_simp
      exact HK'.out _ _ (HK.out _ _ below_rf rfl)
    · intro a w K hb ht hd hK
      have hbw := Lib.hid (below_tr RB2.out hb); clear hb
      obtain ⟨x24, hx24, hp24⟩ := hd 4 _ rfl (by kernel_rfl)
      obtain rfl := hp24
      have es24 : a.tmps.getD 24 undef = _ := getD_of hx24; clear hx24
      clear ht hd
      have HK := Lib.hid hK; clear hK
      refine wpOp_step (by simp only [List.getElem?_toArray, List.getElem?_cons_succ, List.getElem?_cons_zero]; rfl) (fun K' hK' => ?_)
      have HK' := Lib.hid hK'; clear hK'
      go_simp
      exact HK'.out _ _ (HK.out _ _ below_rf rfl)
    · intro a w K hb ht hd hK
      have hbw := Lib.hid (below_tr RB2.out hb); clear hb
      obtain ⟨x19, hx19, hp19⟩ := hd 5 _ rfl (by kernel_rfl)
      obtain rfl := hp19
      have es19 : a.tmps.getD 19 undef = _ := getD_of hx19; clear hx19
      clear ht hd
      have HK := Lib.hid hK; clear hK
      refine wpOp_step (by simp only [List.getElem?_toArray, List.getElem?_cons_succ, List.getElem?_cons_zero]; rfl) (fun K' hK' => ?_)
      have HK' := Lib.hid hK'; clear hK'
      go_simp
      exact HK'.out _ _ (HK.out _ _ below_rf rfl)
    · intro a w K hb ht hd hK
      have hbw := Lib.hid (below_tr RB2.out hb); clear hb
      obtain ⟨x19, hx19, hp19⟩ := hd 5 _ rfl (by kernel_rfl)
      obtain rfl := hp19
      have es19 : a.tmps.getD 19 undef = _ := getD_of hx19; clear hx19
      clear ht hd
      have HK := Lib.hid hK; clear hK
      refine wpOp_step (by simp only [List.getElem?_toArray, List.getElem?_cons_succ, List.getElem?_cons_zero]; rfl) (fun K' hK' => ?_)
      have HK' := Lib.hid hK'; clear hK'
      go_simp
      exact HK'.out _ _ (HK.out _ _ below_rf rfl)
    · intro a w K hb ht hd hK
      have hbw := Lib.hid (below_tr RB2.out hb); clear hb
      obtain ⟨x26, hx26, hp26⟩ := hd 7 _ rfl (by kernel_rfl)
      obtain rfl := hp26
      have es26 : a.tmps.getD 26 undef = _ := getD_of hx26; clear hx26
      clear ht hd
      have HK := Lib.hid hK; clear hK
      refine wpOp_step (by simp only [List.getElem?_toArray, List.getElem?_cons_succ, List.getElem?_cons_zero]; rfl) (fun K' hK' => ?_)
      have HK' := Lib.hid hK'; clear hK'
      go_simp
      exact HK'.out _ _ (HK.out _ _ below_rf rfl)
  · intro w3 X B hb hv hx hd
    simp only [List.foldl_cons, List.foldl_nil, Act.put, List.setIfInBounds_toArray, List.set_cons_zero, List.set_cons_succ, ptrTo]
    obtain ⟨hv0, hv1, hv2, hv3, hv4, hv5, hv6, hv7, hv10, -⟩ := hv
    obtain ⟨⟨hn8, cs8, hx8, hg8⟩, -⟩ := hx
    clear hd
    have hV0 : (fun x w => ∃ m : Nat, x = .map (some m) ∧ OpsM w m) (X 20) w3 := hv0; clear hv0; have hv0 := hV0; clear hV0; generalize X 20 = X20 at *
    have hV1 : (fun z_ _ => z_ = .pointer (some ⟨w.heap.size, 0, none⟩)) (X 21) w3 := hv1; clear hv1; have hv1 := hV1; clear hV1; generalize X 21 = X21 at *
    have hV2 : (fun z_ _ => z_ = .pointer (some ⟨w.heap.size, 0, none⟩)) (X 22) w3 := hv2; clear hv2; have hv2 := hV2; clear hV2; generalize X 22 = X22 at *
    have hV3 : (fun z_ _ => z_ = .int .i64 4) (X 23) w3 := hv3; clear hv3; have hv3 := hV3; clear hV3; generalize X 23 = X23 at *
    have hV4 : (fun z_ _ => z_ = .tuple #[.agg #[.func (.func 147) #[] #[]], .bool true]) (X 24) w3 := hv4; clear hv4; have hv4 := hV4; clear hV4; generalize X 24 = X24 at *
    have hV5 : (fun z_ _ => z_ = .tuple #[.agg #[.func (.func 147) #[] #[]], .bool true]) (X 19) w3 := hv5; clear hv5; have hv5 := hV5; clear hV5; generalize X 19 = X19 at *
    have hV6 : (fun z_ _ => z_ = .agg #[.func (.func 147) #[] #[]]) (X 25) w3 := hv6; clear hv6; have hv6 := hV6; clear hV6; generalize X 25 = X25 at *
    have hV7 : (fun z_ _ => z_ = .bool true) (X 26) w3 := hv7; clear hv7; have hv7 := hV7; clear hV7; generalize X 26 = X26 at *
    have hV10 : (fun z_ _ => z_ = .bool true) (X 9) w3 := hv10; clear hv10; have hv10 := hV10; clear hV10; generalize X 9 = X9 at *
    have hx8' : Bx w3 (B 8) cs8 180 := hx8; clear hx8; generalize B 8 = b8 at *
    have hn8' : w2.heap.size ≤ b8 := hn8; clear hn8
    clear hv0
    obtain rfl := hv1
    obtain rfl := hv2
    obtain rfl := hv3
    obtain rfl := hv4
    obtain rfl := hv5
    obtain rfl := hv6
    obtain rfl := hv7
    obtain rfl := hv10
    obtain rfl := hg8
    have RC := Lib.hid (below_tr RB2.out hb); clear hb
    have FT_3 := Lib.hid (FT_2.out.below RC.out (Nat.le_refl _))
    have FH_3 := Lib.hid (FH_2.out.below RC.out (Nat.le_refl _))
    have FG_3 := Lib.hid (FG_2.out.below RC.out (Nat.le_refl _))
    have FP_3 := Lib.hid (FP_2.out.below RC.out (Nat.le_refl _))
    have FX_3 := Lib.hid (FX_2.out.below RC.out (Nat.le_refl _))
    have FR_3 := Lib.hid (FR_2.out.below RC.out (Nat.le_refl _))
    have FZ_3 := Lib.hid (FZ_2.out.below RC.out (Nat.le_refl _))
    have HB3 := Lib.hid (HB2.out.trans (RC.out.mono HB2.out.size))
    clear HB2 FT_2 FH_2 FG_2 FP_2 FX_2 FR_2 FZ_2 RC RB2
    have FO := Lib.hid hx8'; clear hx8'
    have k0 := FO.out.cell 0 (v := .func (.func 147) #[] #[]) rfl
    have vR0 := FR_3.out.cell 0 (v := .int .i64 4) rfl
    have vR1 := FR_3.out.cell 1 (v := .int .i64 0) rfl
    have vR2 := FR_3.out.cell 2 (v := .slice HA n hc) rfl
    have vR3 := FR_3.out.cell 3 (v := .int .i64 0) rfl
    have vR4 := FR_3.out.cell 4 (v := .slice A n c) rfl
    have vR5 := FR_3.out.cell 5 (v := .slice (some ⟨pb, 0, none⟩) 1 pc) rfl
    have vR6 := FR_3.out.cell 6 (v := .slice QA 0 qc) rfl
    go_wp2_with fail
    refine (engine_op4 HA hc Qh A n c d v Q F G pb pc f g QA qc _ FT_3.out FH_3.out HQ.out FG_3.out FP_3.out HO.out FX_3.out).mono ?_
    rintro e w4 ⟨rfl, B⟩
    clear vR0 vR1 vR2 vR3 vR4 vR5 vR6
    have HB4 := Lib.hid (HB3.out.trans (B.mono HB3.out.size))
    have FT_4 := Lib.hid (FT_3.out.below B (Nat.le_refl _))
    have FH_4 := Lib.hid (FH_3.out.below B (Nat.le_refl _))
    have FG_4 := Lib.hid (FG_3.out.below B (Nat.le_refl _))
    have FP_4 := Lib.hid (FP_3.out.below B (Nat.le_refl _))
    have FX_4 := Lib.hid (FX_3.out.below B (Nat.le_refl _))
    have FR_4 := Lib.hid (FR_3.out.below B (Nat.le_refl _))
    have FZ_4 := Lib.hid (FZ_3.out.below B (Nat.le_refl _))
    have FO_4 := Lib.hid (FO.out.below B (Nat.le_refl _))
    clear B  HB3 FT_3 FH_3 FG_3 FP_3 FX_3 FR_3 FZ_3 FO
    clear k0
    have z0 := FZ_4.out.cell 0 (v := .int .i64 0) rfl; have z1 := FZ_4.out.cell 1 (v := .int .i64 0) rfl; have z2 := FZ_4.out.cell 2 (v := .slice none 0 0) rfl; have y0 := FZ_4.out.free 0; have y1 := FZ_4.out.free 1; have y2 := FZ_4.out.free 2
    go_wp2_with fail
    clear z0 z1 z2 y0 y1 y2
    have HZ := Lib.hid (((FZ_4.out.set 0 (.int .i64 (fenA (allB (vR v Q F G) n) (memR d (lR v Q F G (f 0) (g 0)) n)))).set 1 (.int .i64 0)).set 2 (.slice none 0 0))
    have HBE := Lib.hid (((HB4.out.setCell (p := ⟨w.heap.size + 1, 0, none⟩) (by show w.heap.size ≤ w.heap.size + 1; omega) (.int .i64 (fenA (allB (vR v Q F G) n) (memR d (lR v Q F G (f 0) (g 0)) n)))).setCell (p := ⟨w.heap.size + 1, 1, none⟩) (by show w.heap.size ≤ w.heap.size + 1; omega) (.int .i64 0)).setCell (p := ⟨w.heap.size + 1, 2, none⟩) (by show w.heap.size ≤ w.heap.size + 1; omega) (.slice none 0 0))
    generalize (((w4.setCell ⟨w.heap.size + 1, 0, none⟩ (.int .i64 (fenA (allB (vR v Q F G) n) (memR d (lR v Q F G (f 0) (g 0)) n)))).setCell ⟨w.heap.size + 1, 1, none⟩ (.int .i64 0)).setCell ⟨w.heap.size + 1, 2, none⟩ (.slice none 0 0)) = wz at *
    have q0 := HZ.out.cell 0 (v := .int .i64 (fenA (allB (vR v Q F G) n) (memR d (lR v Q F G (f 0) (g 0)) n))) rfl
    have q1 := HZ.out.cell 1 (v := .int .i64 0) rfl
    have q2 := HZ.out.cell 2 (v := .slice none 0 0) rfl
    refine bodyPost_ret (v := .tuple #[.agg #[.int .i64 (fenA (allB (vR v Q F G) n) (memR d (lR v Q F G (f 0) (g 0)) n)), .int .i64 0, .slice none 0 0], .int .i64 0]) (by simp [results, Tryz.results87, go_sem, q0, q1, q2]) rfl ⟨rfl, HBE.out⟩
end Go.Proofs.YtjdiilkljgljkaaGreatDoor
namespace Go.Proofs.YtjdiilkljgljkaaGreatDoor
set_option linter.unusedVariables false
set_option linter.unusedSimpArgs false
open Go.RowKit Wd


set_option maxHeartbeats 4000000 in
set_option maxRecDepth 100000 in
theorem codec_isAnswer4 (HA : Option Addr) (n hc : Nat) (x : Int) (hx : x = 0 ∨ x = 1 ∨ x = 2) (w : World) :
    Calls Tryz.prog 89 #[.agg #[.int .i64 4, .int .i64 0, .slice HA n hc, .int .i64 0], .agg #[.int .i64 x, .int .i64 0, .slice none 0 0]] w fun e w' => e = .returned (.bool true) ∧ Below w.heap.size w w' := by
  rcases hx with rfl | rfl | rfl
  · go_enter Tryz.func89, Tryz.ntmps89
    go_wp2_with fail
    refine wp_loop_rounds 1 ?_
    rw [rounds_succ]
    go_wp2_with fail
    go_ret
    exact ⟨rfl, by repeat (first | exact below_rf | refine below_al ?_)⟩
  · go_enter Tryz.func89, Tryz.ntmps89
    go_wp2_with fail
    refine wp_loop_rounds 1 ?_
    rw [rounds_succ]
    go_wp2_with fail
    go_ret
    exact ⟨rfl, by repeat (first | exact below_rf | refine below_al ?_)⟩
  · go_enter Tryz.func89, Tryz.ntmps89
    go_wp2_with fail
    refine wp_loop_rounds 1 ?_
    rw [rounds_succ]
    go_wp2_with fail
    go_ret
    exact ⟨rfl, by repeat (first | exact below_rf | refine below_al ?_)⟩
set_option maxHeartbeats 4000000 in
set_option maxRecDepth 100000 in
theorem codec_Respond4 (Hd : Option Addr) (hc n : Nat) (d : Nat → Bool) (v : Nat → Int) (Qh : Nat → Option Addr × Nat × Nat) (x : Int) (hx : x = 0 ∨ x = 1 ∨ x = 2) (w : World) (hh : Rgs w Hd n hc d v Qh) (hq : ∀ k, k < n → (Qh k).2.1 = 0) (ho : OkK n v) :
    Calls Tryz.prog 56 #[.agg #[.int .i64 4, .int .i64 0, .slice Hd n hc, .int .i64 0], .agg #[.int .i64 x, .int .i64 0, .slice none 0 0]] w fun e w' => (∃ A c, e = .returned (.tuple #[.slice A 2 c, .int .i64 0]) ∧ By w' A c [0, x]) ∧ Below w.heap.size w w' := by
  have HH_ := Lib.hid hh; have HQ := Lib.hid hq; have HO := Lib.hid ho; clear hh hq ho
  rcases hx with rfl | rfl | rfl
  · go_enter Tryz.func56, Tryz.ntmps56
    go_wp2_with fail
    have HH := Lib.hid (show Bx ((w.alloc (.cells #[.int .i64 4, .int .i64 0, .slice Hd n hc, .int .i64 0] 28)).alloc (.cells #[.int .i64 0, .int .i64 0, .slice none 0 0] 102)) w.heap.size #[.int .i64 4, .int .i64 0, .slice Hd n hc, .int .i64 0] 28 from (Bx.new _ _ _).alloc _)
    have HA := Lib.hid (show Bx ((w.alloc (.cells #[.int .i64 4, .int .i64 0, .slice Hd n hc, .int .i64 0] 28)).alloc (.cells #[.int .i64 0, .int .i64 0, .slice none 0 0] 102)) (w.heap.size + 1) #[.int .i64 0, .int .i64 0, .slice none 0 0] 102 from bx_new (by simp))
    have HB1 := Lib.hid (show Below w.heap.size w ((w.alloc (.cells #[.int .i64 4, .int .i64 0, .slice Hd n hc, .int .i64 0] 28)).alloc (.cells #[.int .i64 0, .int .i64 0, .slice none 0 0] 102)) from below_al (below_al below_rf))
    generalize (w.alloc (.cells #[.int .i64 4, .int .i64 0, .slice Hd n hc, .int .i64 0] 28)).alloc (.cells #[.int .i64 0, .int .i64 0, .slice none 0 0] 102) = w1 at *
    have c0 := HH.out.cell 0 (v := .int .i64 4) rfl
    have c1 := HH.out.cell 1 (v := .int .i64 0) rfl
    have c2 := HH.out.cell 2 (v := .slice Hd n hc) rfl
    have c3 := HH.out.cell 3 (v := .int .i64 0) rfl
    go_wp2_with fail
    clear c0 c1 c2 c3
    refine (header_FormatR 4 0 (.inl ⟨rfl, rfl⟩) Hd n hc d v Qh HO.out HQ.out _ (HH_.out.below HB1.out (Nat.le_refl _))).mono ?_
    rintro e w2 ⟨⟨v_, rfl, ho2⟩, B⟩
    obtain ⟨A', c', rfl⟩ := ho2.slice
    have HH2 := Lib.hid (HH.out.below B (Nat.le_refl _)); have HA2 := Lib.hid (HA.out.below B (Nat.le_refl _)); have HB2 := Lib.hid (HB1.out.trans (B.mono HB1.out.size)); clear B ho2 HH HA HB1
    have c0 := HH2.out.cell 0 (v := .int .i64 4) rfl
    have c1 := HH2.out.cell 1 (v := .int .i64 0) rfl
    have c2 := HH2.out.cell 2 (v := .slice Hd n hc) rfl
    have c3 := HH2.out.cell 3 (v := .int .i64 0) rfl
    have a0 := HA2.out.cell 0 (v := .int .i64 0) rfl
    have a1 := HA2.out.cell 1 (v := .int .i64 0) rfl
    have a2 := HA2.out.cell 2 (v := .slice none 0 0) rfl
    go_wp2_with fail
    clear c0 c1 c2 c3 a0 a1 a2
    refine (codec_isAnswer4 Hd n hc 0 (by decide) _).mono ?_
    rintro e w3 ⟨rfl, B⟩
    have HH3 := Lib.hid (HH2.out.below B (Nat.le_refl _)); have HA3 := Lib.hid (HA2.out.below B (Nat.le_refl _)); have HB3 := Lib.hid (HB2.out.trans (B.mono HB2.out.size)); clear B HH2 HA2 HB2
    have a0 := HA3.out.cell 0 (v := .int .i64 0) rfl
    have c0 := ((HH3.out.alloc (.cells #[.int .u8 0, .int .u8 0] 5)).alloc (.cells #[.slice (some ⟨w3.heap.size, 0, none⟩) 2 2] 142)).cell 0 (v := .int .i64 4) rfl
    have a2 := ((HA3.out.alloc (.cells #[.int .u8 0, .int .u8 0] 5)).alloc (.cells #[.slice (some ⟨w3.heap.size, 0, none⟩) 2 2] 142)).cell 2 (v := .slice none 0 0) rfl
    go_wp2_with fail
    refine (each_recs0 _ _ _ _).mono ?_
    rintro e w4 ⟨rfl, rfl⟩
    go_wp2_with fail
    go_ret2
    refine ⟨⟨_, _, rfl, ?_⟩, (HB3.out.alloc HB3.out.size _).alloc (by have := HB3.out.size; simp; omega) _⟩
    refine ⟨by decide, by decide, fun _ => ⟨w3.heap.size, 0, rfl, (by simp <;> omega), fun i x hi => ?_⟩⟩
    have HBX := ((Bx.new w3 #[.int .u8 0, .int .u8 0] 5).alloc (.cells #[.slice (some ⟨w3.heap.size, 0, none⟩) 2 2] 142))
    match i, hi with
    | 0, hi => simp at hi; subst hi; exact HBX.cell 0 rfl
    | 1, hi => simp at hi; subst hi; exact HBX.cell 1 rfl
    | i + 2, hi => simp at hi
  · go_enter Tryz.func56, Tryz.ntmps56
    go_wp2_with fail
    have HH := Lib.hid (show Bx ((w.alloc (.cells #[.int .i64 4, .int .i64 0, .slice Hd n hc, .int .i64 0] 28)).alloc (.cells #[.int .i64 1, .int .i64 0, .slice none 0 0] 102)) w.heap.size #[.int .i64 4, .int .i64 0, .slice Hd n hc, .int .i64 0] 28 from (Bx.new _ _ _).alloc _)
    have HA := Lib.hid (show Bx ((w.alloc (.cells #[.int .i64 4, .int .i64 0, .slice Hd n hc, .int .i64 0] 28)).alloc (.cells #[.int .i64 1, .int .i64 0, .slice none 0 0] 102)) (w.heap.size + 1) #[.int .i64 1, .int .i64 0, .slice none 0 0] 102 from bx_new (by simp))
    have HB1 := Lib.hid (show Below w.heap.size w ((w.alloc (.cells #[.int .i64 4, .int .i64 0, .slice Hd n hc, .int .i64 0] 28)).alloc (.cells #[.int .i64 1, .int .i64 0, .slice none 0 0] 102)) from below_al (below_al below_rf))
    generalize (w.alloc (.cells #[.int .i64 4, .int .i64 0, .slice Hd n hc, .int .i64 0] 28)).alloc (.cells #[.int .i64 1, .int .i64 0, .slice none 0 0] 102) = w1 at *
    have c0 := HH.out.cell 0 (v := .int .i64 4) rfl
    have c1 := HH.out.cell 1 (v := .int .i64 0) rfl
    have c2 := HH.out.cell 2 (v := .slice Hd n hc) rfl
    have c3 := HH.out.cell 3 (v := .int .i64 0) rfl
    go_wp2_with fail
    clear c0 c1 c2 c3
    refine (header_FormatR 4 0 (.inl ⟨rfl, rfl⟩) Hd n hc d v Qh HO.out HQ.out _ (HH_.out.below HB1.out (Nat.le_refl _))).mono ?_
    rintro e w2 ⟨⟨v_, rfl, ho2⟩, B⟩
    obtain ⟨A', c', rfl⟩ := ho2.slice
    have HH2 := Lib.hid (HH.out.below B (Nat.le_refl _)); have HA2 := Lib.hid (HA.out.below B (Nat.le_refl _)); have HB2 := Lib.hid (HB1.out.trans (B.mono HB1.out.size)); clear B ho2 HH HA HB1
    have c0 := HH2.out.cell 0 (v := .int .i64 4) rfl
    have c1 := HH2.out.cell 1 (v := .int .i64 0) rfl
    have c2 := HH2.out.cell 2 (v := .slice Hd n hc) rfl
    have c3 := HH2.out.cell 3 (v := .int .i64 0) rfl
    have a0 := HA2.out.cell 0 (v := .int .i64 1) rfl
    have a1 := HA2.out.cell 1 (v := .int .i64 0) rfl
    have a2 := HA2.out.cell 2 (v := .slice none 0 0) rfl
    go_wp2_with fail
    clear c0 c1 c2 c3 a0 a1 a2
    refine (codec_isAnswer4 Hd n hc 1 (by decide) _).mono ?_
    rintro e w3 ⟨rfl, B⟩
    have HH3 := Lib.hid (HH2.out.below B (Nat.le_refl _)); have HA3 := Lib.hid (HA2.out.below B (Nat.le_refl _)); have HB3 := Lib.hid (HB2.out.trans (B.mono HB2.out.size)); clear B HH2 HA2 HB2
    have a0 := HA3.out.cell 0 (v := .int .i64 1) rfl
    have c0 := ((HH3.out.alloc (.cells #[.int .u8 0, .int .u8 1] 5)).alloc (.cells #[.slice (some ⟨w3.heap.size, 0, none⟩) 2 2] 142)).cell 0 (v := .int .i64 4) rfl
    have a2 := ((HA3.out.alloc (.cells #[.int .u8 0, .int .u8 1] 5)).alloc (.cells #[.slice (some ⟨w3.heap.size, 0, none⟩) 2 2] 142)).cell 2 (v := .slice none 0 0) rfl
    go_wp2_with fail
    refine (each_recs0 _ _ _ _).mono ?_
    rintro e w4 ⟨rfl, rfl⟩
    go_wp2_with fail
    go_ret2
    refine ⟨⟨_, _, rfl, ?_⟩, (HB3.out.alloc HB3.out.size _).alloc (by have := HB3.out.size; simp; omega) _⟩
    refine ⟨by decide, by decide, fun _ => ⟨w3.heap.size, 0, rfl, (by simp <;> omega), fun i x hi => ?_⟩⟩
    have HBX := ((Bx.new w3 #[.int .u8 0, .int .u8 1] 5).alloc (.cells #[.slice (some ⟨w3.heap.size, 0, none⟩) 2 2] 142))
    match i, hi with
    | 0, hi => simp at hi; subst hi; exact HBX.cell 0 rfl
    | 1, hi => simp at hi; subst hi; exact HBX.cell 1 rfl
    | i + 2, hi => simp at hi
  · go_enter Tryz.func56, Tryz.ntmps56
    go_wp2_with fail
    have HH := Lib.hid (show Bx ((w.alloc (.cells #[.int .i64 4, .int .i64 0, .slice Hd n hc, .int .i64 0] 28)).alloc (.cells #[.int .i64 2, .int .i64 0, .slice none 0 0] 102)) w.heap.size #[.int .i64 4, .int .i64 0, .slice Hd n hc, .int .i64 0] 28 from (Bx.new _ _ _).alloc _)
    have HA := Lib.hid (show Bx ((w.alloc (.cells #[.int .i64 4, .int .i64 0, .slice Hd n hc, .int .i64 0] 28)).alloc (.cells #[.int .i64 2, .int .i64 0, .slice none 0 0] 102)) (w.heap.size + 1) #[.int .i64 2, .int .i64 0, .slice none 0 0] 102 from bx_new (by simp))
    have HB1 := Lib.hid (show Below w.heap.size w ((w.alloc (.cells #[.int .i64 4, .int .i64 0, .slice Hd n hc, .int .i64 0] 28)).alloc (.cells #[.int .i64 2, .int .i64 0, .slice none 0 0] 102)) from below_al (below_al below_rf))
    generalize (w.alloc (.cells #[.int .i64 4, .int .i64 0, .slice Hd n hc, .int .i64 0] 28)).alloc (.cells #[.int .i64 2, .int .i64 0, .slice none 0 0] 102) = w1 at *
    have c0 := HH.out.cell 0 (v := .int .i64 4) rfl
    have c1 := HH.out.cell 1 (v := .int .i64 0) rfl
    have c2 := HH.out.cell 2 (v := .slice Hd n hc) rfl
    have c3 := HH.out.cell 3 (v := .int .i64 0) rfl
    go_wp2_with fail
    clear c0 c1 c2 c3
    refine (header_FormatR 4 0 (.inl ⟨rfl, rfl⟩) Hd n hc d v Qh HO.out HQ.out _ (HH_.out.below HB1.out (Nat.le_refl _))).mono ?_
    rintro e w2 ⟨⟨v_, rfl, ho2⟩, B⟩
    obtain ⟨A', c', rfl⟩ := ho2.slice
    have HH2 := Lib.hid (HH.out.below B (Nat.le_refl _)); have HA2 := Lib.hid (HA.out.below B (Nat.le_refl _)); have HB2 := Lib.hid (HB1.out.trans (B.mono HB1.out.size)); clear B ho2 HH HA HB1
    have c0 := HH2.out.cell 0 (v := .int .i64 4) rfl
    have c1 := HH2.out.cell 1 (v := .int .i64 0) rfl
    have c2 := HH2.out.cell 2 (v := .slice Hd n hc) rfl
    have c3 := HH2.out.cell 3 (v := .int .i64 0) rfl
    have a0 := HA2.out.cell 0 (v := .int .i64 2) rfl
    have a1 := HA2.out.cell 1 (v := .int .i64 0) rfl
    have a2 := HA2.out.cell 2 (v := .slice none 0 0) rfl
    go_wp2_with fail
    clear c0 c1 c2 c3 a0 a1 a2
    refine (codec_isAnswer4 Hd n hc 2 (by decide) _).mono ?_
    rintro e w3 ⟨rfl, B⟩
    have HH3 := Lib.hid (HH2.out.below B (Nat.le_refl _)); have HA3 := Lib.hid (HA2.out.below B (Nat.le_refl _)); have HB3 := Lib.hid (HB2.out.trans (B.mono HB2.out.size)); clear B HH2 HA2 HB2
    have a0 := HA3.out.cell 0 (v := .int .i64 2) rfl
    have c0 := ((HH3.out.alloc (.cells #[.int .u8 0, .int .u8 2] 5)).alloc (.cells #[.slice (some ⟨w3.heap.size, 0, none⟩) 2 2] 142)).cell 0 (v := .int .i64 4) rfl
    have a2 := ((HA3.out.alloc (.cells #[.int .u8 0, .int .u8 2] 5)).alloc (.cells #[.slice (some ⟨w3.heap.size, 0, none⟩) 2 2] 142)).cell 2 (v := .slice none 0 0) rfl
    go_wp2_with fail
    refine (each_recs0 _ _ _ _).mono ?_
    rintro e w4 ⟨rfl, rfl⟩
    go_wp2_with fail
    go_ret2
    refine ⟨⟨_, _, rfl, ?_⟩, (HB3.out.alloc HB3.out.size _).alloc (by have := HB3.out.size; simp; omega) _⟩
    refine ⟨by decide, by decide, fun _ => ⟨w3.heap.size, 0, rfl, (by simp <;> omega), fun i x hi => ?_⟩⟩
    have HBX := ((Bx.new w3 #[.int .u8 0, .int .u8 2] 5).alloc (.cells #[.slice (some ⟨w3.heap.size, 0, none⟩) 2 2] 142))
    match i, hi with
    | 0, hi => simp at hi; subst hi; exact HBX.cell 0 rfl
    | 1, hi => simp at hi; subst hi; exact HBX.cell 1 rfl
    | i + 2, hi => simp at hi
set_option maxHeartbeats 4000000 in
set_option maxRecDepth 100000 in
theorem serve_Handle4 (HA : Option Addr) (hc : Nat) (Qh : Nat → Option Addr × Nat × Nat) (A : Option Addr) (n c : Nat) (d : Nat → Bool) (v : Nat → Int) (Q : Nat → Option Addr × Nat × Nat) (F G : Nat → Nat → Int) (pb pc : Nat) (f g : Nat → Int) (QA : Option Addr) (qc : Nat) (w : World) (hT : TabM w) (hh : Rgs w HA n hc d v Qh) (hq : ∀ k, k < n → (Qh k).2.1 = 0) (hr : Rgs w A n c d v Q) (hp : RgP w n Q F G) (ho : OkR n v Q) (hpp : Pts w (some ⟨pb, 0, none⟩) 1 pc f g) :
    Calls Tryz.prog 55 #[.pointer none, .agg #[.int .i64 4, .int .i64 0, .slice HA n hc, .int .i64 0, .slice A n c, .slice (some ⟨pb, 0, none⟩) 1 pc, .slice QA 0 qc]] w fun e w' => e = .returned (.tuple #[.agg #[.int .i64 (fenA (allB (vR v Q F G) n) (memR d (lR v Q F G (f 0) (g 0)) n)), .int .i64 0, .slice none 0 0], .int .i64 0]) ∧ Below w.heap.size w w' := by
  have HB0 := Lib.hid (Below.refl w.heap.size w); have FT := Lib.hid hT; have FH := Lib.hid hh; have HQ := Lib.hid hq; have FG := Lib.hid hr; have FP := Lib.hid hp; have HO := Lib.hid ho; have FX := Lib.hid hpp
  have hcp3 := hpp.cap; have hmx3 := hpp.max; unfold maxLen at hmx3
  have HIX := Lib.hid (hpp.isi 0 (by decide))
  clear hT hh hq hr hp ho hpp
  go_enter Tryz.func55, Tryz.ntmps55
  go_wp2_with fail
  have B : Below w.heap.size w ((w.alloc (.cells #[.int .i64 4, .int .i64 0, .slice HA n hc, .int .i64 0, .slice A n c, .slice (some ⟨pb, 0, none⟩) 1 pc, .slice QA 0 qc] 99)).alloc (.cells #[.int .i64 0, .int .i64 0, .slice none 0 0] 102)) := ((HB0.out.alloc HB0.out.size _).alloc (HB0.out.alloc HB0.out.size _).size _)
  have C : Below w.heap.size w ((w.alloc (.cells #[.int .i64 4, .int .i64 0, .slice HA n hc, .int .i64 0, .slice A n c, .slice (some ⟨pb, 0, none⟩) 1 pc, .slice QA 0 qc] 99)).alloc (.cells #[.int .i64 0, .int .i64 0, .slice none 0 0] 102)) := (((Below.refl w.heap.size w).alloc (Nat.le_refl _) _).alloc (by simp; try omega) _)
  have X0 : Bx ((w.alloc (.cells #[.int .i64 4, .int .i64 0, .slice HA n hc, .int .i64 0, .slice A n c, .slice (some ⟨pb, 0, none⟩) 1 pc, .slice QA 0 qc] 99)).alloc (.cells #[.int .i64 0, .int .i64 0, .slice none 0 0] 102)) (w.heap.size) #[.int .i64 4, .int .i64 0, .slice HA n hc, .int .i64 0, .slice A n c, .slice (some ⟨pb, 0, none⟩) 1 pc, .slice QA 0 qc] 99 := by simpa using ((Bx.new w #[.int .i64 4, .int .i64 0, .slice HA n hc, .int .i64 0, .slice A n c, .slice (some ⟨pb, 0, none⟩) 1 pc, .slice QA 0 qc] 99).alloc _)
  have X1 : Bx ((w.alloc (.cells #[.int .i64 4, .int .i64 0, .slice HA n hc, .int .i64 0, .slice A n c, .slice (some ⟨pb, 0, none⟩) 1 pc, .slice QA 0 qc] 99)).alloc (.cells #[.int .i64 0, .int .i64 0, .slice none 0 0] 102)) (w.heap.size + 1) #[.int .i64 0, .int .i64 0, .slice none 0 0] 102 := by simpa using (Bx.new (w.alloc (.cells #[.int .i64 4, .int .i64 0, .slice HA n hc, .int .i64 0, .slice A n c, .slice (some ⟨pb, 0, none⟩) 1 pc, .slice QA 0 qc] 99)) #[.int .i64 0, .int .i64 0, .slice none 0 0] 102)
  have FT_1 := Lib.hid (FT.out.below C (Nat.le_refl _))
  have FH_1 := Lib.hid (FH.out.below C (Nat.le_refl _))
  have FG_1 := Lib.hid (FG.out.below C (Nat.le_refl _))
  have FP_1 := Lib.hid (FP.out.below C (Nat.le_refl _))
  have FX_1 := Lib.hid (FX.out.below C (Nat.le_refl _))
  have HB1 := Lib.hid B
  have FR_1 := Lib.hid X0
  have FZ_1 := Lib.hid X1
  clear B C X0 X1 HB0 FT FH FG FP FX
  generalize ((w.alloc (.cells #[.int .i64 4, .int .i64 0, .slice HA n hc, .int .i64 0, .slice A n c, .slice (some ⟨pb, 0, none⟩) 1 pc, .slice QA 0 qc] 99)).alloc (.cells #[.int .i64 0, .int .i64 0, .slice none 0 0] 102)) = w1 at *
  have vR0 := FR_1.out.cell 0 (v := .int .i64 4) rfl
  have vR1 := FR_1.out.cell 1 (v := .int .i64 0) rfl
  have vR2 := FR_1.out.cell 2 (v := .slice HA n hc) rfl
  have vR3 := FR_1.out.cell 3 (v := .int .i64 0) rfl
  have vR4 := FR_1.out.cell 4 (v := .slice A n c) rfl
  have vR5 := FR_1.out.cell 5 (v := .slice (some ⟨pb, 0, none⟩) 1 pc) rfl
  have vR6 := FR_1.out.cell 6 (v := .slice QA 0 qc) rfl
  go_wp2_with fail
  refine (codec_Encode4 HA hc Qh A n c d v Q F G (some ⟨pb, 0, none⟩) pc f g QA qc _ FH_1.out HQ.out FG_1.out FP_1.out HO.out FX_1.out).mono ?_
  rintro e w2 ⟨⟨v_, rfl⟩, B⟩
  clear vR0 vR1 vR2 vR3 vR4 vR5 vR6
  have HB2 := Lib.hid (HB1.out.trans (B.mono HB1.out.size))
  have FT_2 := Lib.hid (FT_1.out.below B (Nat.le_refl _))
  have FH_2 := Lib.hid (FH_1.out.below B (Nat.le_refl _))
  have FG_2 := Lib.hid (FG_1.out.below B (Nat.le_refl _))
  have FP_2 := Lib.hid (FP_1.out.below B (Nat.le_refl _))
  have FX_2 := Lib.hid (FX_1.out.below B (Nat.le_refl _))
  have FR_2 := Lib.hid (FR_1.out.below B (Nat.le_refl _))
  have FZ_2 := Lib.hid (FZ_1.out.below B (Nat.le_refl _))
  clear B  HB1 FT_1 FH_1 FG_1 FP_1 FX_1 FR_1 FZ_1
  have vR0 := FR_2.out.cell 0 (v := .int .i64 4) rfl
  have vR1 := FR_2.out.cell 1 (v := .int .i64 0) rfl
  have vR2 := FR_2.out.cell 2 (v := .slice HA n hc) rfl
  have vR3 := FR_2.out.cell 3 (v := .int .i64 0) rfl
  have vR4 := FR_2.out.cell 4 (v := .slice A n c) rfl
  have vR5 := FR_2.out.cell 5 (v := .slice (some ⟨pb, 0, none⟩) 1 pc) rfl
  have vR6 := FR_2.out.cell 6 (v := .slice QA 0 qc) rfl
  go_wp2_with fail
  refine (engine_Answer4 HA hc Qh A n c d v Q F G pb pc f g QA qc _ FT_2.out FH_2.out HQ.out FG_2.out FP_2.out HO.out FX_2.out).mono ?_
  rintro e w3 ⟨rfl, B⟩
  clear vR0 vR1 vR2 vR3 vR4 vR5 vR6
  have HB3 := Lib.hid (HB2.out.trans (B.mono HB2.out.size))
  have FT_3 := Lib.hid (FT_2.out.below B (Nat.le_refl _))
  have FH_3 := Lib.hid (FH_2.out.below B (Nat.le_refl _))
  have FG_3 := Lib.hid (FG_2.out.below B (Nat.le_refl _))
  have FP_3 := Lib.hid (FP_2.out.below B (Nat.le_refl _))
  have FX_3 := Lib.hid (FX_2.out.below B (Nat.le_refl _))
  have FR_3 := Lib.hid (FR_2.out.below B (Nat.le_refl _))
  have FZ_3 := Lib.hid (FZ_2.out.below B (Nat.le_refl _))
  clear B  HB2 FT_2 FH_2 FG_2 FP_2 FX_2 FR_2 FZ_2
  have z0 := FZ_3.out.cell 0 (v := .int .i64 0) rfl; have z1 := FZ_3.out.cell 1 (v := .int .i64 0) rfl; have z2 := FZ_3.out.cell 2 (v := .slice none 0 0) rfl; have y0 := FZ_3.out.free 0; have y1 := FZ_3.out.free 1; have y2 := FZ_3.out.free 2
  go_wp2_with fail
  clear z0 z1 z2 y0 y1 y2
  have HZ := Lib.hid (((FZ_3.out.set 0 (.int .i64 (fenA (allB (vR v Q F G) n) (memR d (lR v Q F G (f 0) (g 0)) n)))).set 1 (.int .i64 0)).set 2 (.slice none 0 0))
  have HBE := Lib.hid (((HB3.out.setCell (p := ⟨w.heap.size + 1, 0, none⟩) (by show w.heap.size ≤ w.heap.size + 1; omega) (.int .i64 (fenA (allB (vR v Q F G) n) (memR d (lR v Q F G (f 0) (g 0)) n)))).setCell (p := ⟨w.heap.size + 1, 1, none⟩) (by show w.heap.size ≤ w.heap.size + 1; omega) (.int .i64 0)).setCell (p := ⟨w.heap.size + 1, 2, none⟩) (by show w.heap.size ≤ w.heap.size + 1; omega) (.slice none 0 0))
  generalize (((w3.setCell ⟨w.heap.size + 1, 0, none⟩ (.int .i64 (fenA (allB (vR v Q F G) n) (memR d (lR v Q F G (f 0) (g 0)) n)))).setCell ⟨w.heap.size + 1, 1, none⟩ (.int .i64 0)).setCell ⟨w.heap.size + 1, 2, none⟩ (.slice none 0 0)) = wz at *
  have q0 := HZ.out.cell 0 (v := .int .i64 (fenA (allB (vR v Q F G) n) (memR d (lR v Q F G (f 0) (g 0)) n))) rfl
  have q1 := HZ.out.cell 1 (v := .int .i64 0) rfl
  have q2 := HZ.out.cell 2 (v := .slice none 0 0) rfl
  refine bodyPost_ret (v := .tuple #[.agg #[.int .i64 (fenA (allB (vR v Q F G) n) (memR d (lR v Q F G (f 0) (g 0)) n)), .int .i64 0, .slice none 0 0], .int .i64 0]) (by simp [results, Tryz.results55, go_sem, q0, q1, q2]) rfl ⟨rfl, HBE.out⟩
end Go.Proofs.YtjdiilkljgljkaaGreatDoor
namespace Go.Proofs.YtjdiilkljgljkaaGreatDoor
set_option linter.unusedVariables false
set_option linter.unusedSimpArgs false
open Go.RowKit Wd

theorem By.drop {w : World} {b off c : Nat} {l m : List Int} (h : By w (some ⟨b, off, none⟩) c (l ++ m)) : By w (some ⟨b, off + l.length, none⟩) (c - l.length) m :=
  ⟨by have := h.cap; simp at this; omega, by have := h.max; omega, fun h0 => by
    obtain ⟨b', o', e, hlt, hc⟩ := h.at_ (by simp; omega)
    obtain ⟨rfl, rfl⟩ : b = b' ∧ off = o' := by simpa using e
    refine ⟨b, _, rfl, hlt, fun i x hi => ?_⟩
    have := hc (l.length + i) x (by rw [List.getElem?_append_right (by omega)]; simpa using hi)
    rw [← Nat.add_assoc] at this; exact this⟩
/-- the bytes of j regions' points from number m on -/
def rgsR (Q : Nat → Option Addr × Nat × Nat) (F G : Nat → Nat → Int) (m : Nat) : Nat → List Int
  | 0 => []
  | j + 1 => ptsB (F m) (G m) (Q m).2.1 ++ rgsR Q F G (m + 1) j
theorem rgsB_R (Q : Nat → Option Addr × Nat × Nat) (F G : Nat → Nat → Int) : ∀ j m, rgsB Q F G (m + j) = rgsB Q F G m ++ rgsR Q F G m j
  | 0, m => by simp [rgsR]
  | j + 1, m => by
    rw [show m + (j + 1) = (m + 1) + j by omega, rgsB_R Q F G j (m + 1), rgsB, rgsR, List.append_assoc]
theorem rgsB_R0 (Q : Nat → Option Addr × Nat × Nat) (F G : Nat → Nat → Int) (n : Nat) : rgsB Q F G n = rgsR Q F G 0 n := by have := rgsB_R Q F G n 0; simpa [rgsB] using this
theorem rgsR_step (Q : Nat → Option Addr × Nat × Nat) (F G : Nat → Nat → Int) {m n : Nat} (h : m < n) : rgsR Q F G m (n - m) = ptsB (F m) (G m) (Q m).2.1 ++ rgsR Q F G (m + 1) (n - (m + 1)) := by
  rw [show n - m = (n - (m + 1)) + 1 by omega, rgsR]
/-- points in a block of points -/
structure PtT (w : World) (B n : Nat) (f g : Nat → Int) : Prop where
  pts : Pts w (Option.some ⟨B, 0, none⟩) n n f g
  box : ∃ cur, Bx w B cur 23
theorem PtT.keep {w w' : World} {B n : Nat} {f g : Nat → Int} (h : PtT w B n f g) (hk : ∀ cur, Bx w B cur 23 → Bx w' B cur 23) : PtT w' B n f g := by
  obtain ⟨cur, hb⟩ := h.box
  have hb' := hk cur hb
  refine ⟨⟨h.pts.cap, h.pts.max, h.pts.isi, fun h0 => ?_⟩, cur, hb'⟩
  obtain ⟨b, o, e, hlt, hc⟩ := h.pts.at_ h0
  obtain ⟨rfl, rfl⟩ : B = b ∧ 0 = o := by simpa using e
  have he : ∀ i, w'.cell? ⟨B, i, none⟩ = w.cell? ⟨B, i, none⟩ := fun i => World.cell?_of_block (w := w) (w' := w') (a := ⟨B, i, none⟩) ((show w'.heap[B]? = _ from hb').trans (show w.heap[B]? = _ from hb).symm)
  exact ⟨B, 0, rfl, hb'.lt, fun i hi => ⟨(he _).trans (hc i hi).1, (he _).trans (hc i hi).2⟩⟩
theorem PtT.alloc {w : World} {B n : Nat} {f g : Nat → Int} (h : PtT w B n f g) (o : Obj) : PtT (w.alloc o) B n f g := h.keep fun cur hb => hb.alloc o
theorem PtT.below {w w' : World} {B n k : Nat} {f g : Nat → Int} (h : PtT w B n f g) (hb : Below k w w') (hk : w.heap.size ≤ k) : PtT w' B n f g := h.keep fun cur hx => hx.below hb hk
theorem PtT.gr {w w' : World} {B n br : Nat} {f g : Nat → Int} {cs : Array Value} {t : TypeId} (h : PtT w B n f g) (hb : Bx w br cs t) (ht : t ≠ 23) (hg : w.grownBy w' (Option.some br)) : PtT w' B n f g :=
  h.keep fun cur hx => bx_gr hx (bx_ne hx hb (fun e => ht e.symm)) hg
theorem PtT.row {w w' : World} {base B n m : Nat} {x : Value} {xs : List Value} {f g : Nat → Int} (h : PtT w B n f g) (hg : w.grownBy w' x.ownBlock) (ho : w.ownsRow base 48 3 x m xs) : PtT w' B n f g :=
  h.keep fun cur hx => bx_grownR hx (by decide) hg ho
theorem PtT.set {w : World} {B n k i : Nat} {v : Value} {f g : Nat → Int} {cs : Array Value} {t : TypeId} (h : PtT w B n f g) (hb : Bx w k cs t) (ht : t ≠ 23) : PtT (w.setCell ⟨k, i, none⟩ v) B n f g :=
  h.keep fun cur hx => hx.other _ (bx_ne hx hb (fun e => ht e.symm))
/-- a row of regions under a change of a block that is not its own -/
theorem OwR.keep {w w' : World} {base n : Nat} {x : Value} {d : Nat → Bool} {v : Nat → Int} {Q : Nat → Option Addr × Nat × Nat} (h : OwR w base x n d v Q) (hk : ∀ g cur, x.ownBlock = Option.some g → Bx w g cur 48 → Bx w' g cur 48) : OwR w' base x n d v Q := by
  refine ⟨h.1, ?_⟩
  rcases h.2 with h | ⟨g, c, cur, e1, e2, e3, e4⟩
  · exact .inl h
  · exact .inr ⟨g, c, cur, e1, e2, hk g cur (by rw [e1]; rfl) e3, e4⟩
theorem OwR.gr {w w' : World} {base n br : Nat} {x : Value} {d : Nat → Bool} {v : Nat → Int} {Q : Nat → Option Addr × Nat × Nat} {cs : Array Value} {t : TypeId} (h : OwR w base x n d v Q) (hb : Bx w br cs t) (ht : t ≠ 48) (hg : w.grownBy w' (Option.some br)) : OwR w' base x n d v Q :=
  h.keep fun g cur _ hx => bx_gr hx (bx_ne hx hb (fun e => ht e.symm)) hg
theorem OwR.lt {w : World} {base n : Nat} {x : Value} {d : Nat → Bool} {v : Nat → Int} {Q : Nat → Option Addr × Nat × Nat} (h : OwR w base x n d v Q) : ∀ g, x.ownBlock = Option.some g → g < w.heap.size := by
  intro g hg
  obtain ⟨_, cur, hb⟩ := row_block h hg
  exact hb.lt
theorem OwR.setNe {w : World} {base n k i : Nat} {x y : Value} {d : Nat → Bool} {v : Nat → Int} {Q : Nat → Option Addr × Nat × Nat} (h : OwR w base x n d v Q) (hne : ∀ g, x.ownBlock = Option.some g → g ≠ k) : OwR (w.setCell ⟨k, i, none⟩ y) base x n d v Q :=
  h.keep fun g cur hg hx => hx.other _ (hne g hg)
theorem rgL_congr {d : Nat → Bool} {v : Nat → Int} {Q Q' : Nat → Option Addr × Nat × Nat} : ∀ n, (∀ i, i < n → Q i = Q' i) → rgL d v Q n = rgL d v Q' n
  | 0, _ => rfl
  | n + 1, h => by rw [rgL, rgL, rgL_congr n (fun i hi => h i (by omega)), h n (by omega)]
theorem OwR.congr {w : World} {base n : Nat} {x : Value} {d : Nat → Bool} {v : Nat → Int} {Q Q' : Nat → Option Addr × Nat × Nat} (h : OwR w base x n d v Q) (hq : ∀ i, i < n → Q i = Q' i) : OwR w base x n d v Q' := by
  unfold OwR; rw [← rgL_congr n hq]; exact h
/-- the places of the points that have been read -/
def putQ (B : Nat → Nat) (K : Nat → Nat) : Nat → Option Addr × Nat × Nat := fun i => (Option.some ⟨B i, 0, none⟩, K i, K i)
def setB (B : Nat → Nat) (m x : Nat) : Nat → Nat := fun i => if i = m then x else B i
theorem setB_lt {B : Nat → Nat} {m x i : Nat} (h : i < m) : setB B m x i = B i := by unfold setB; rw [if_neg (by omega)]
theorem setB_eq {B : Nat → Nat} {m x : Nat} : setB B m x m = x := by unfold setB; rw [if_pos rfl]
theorem putQ_lt {B K : Nat → Nat} {m x i : Nat} (h : i < m) : putQ B K i = putQ (setB B m x) K i := by unfold putQ; rw [setB_lt h]
theorem Rd.keep {w w' : World} {br : Nat} {l : List Int} (h : Rd w br l) (hs : w.heap.size ≤ w'.heap.size) (hk : ∀ k, k ≤ br → w'.heap[k]? = w.heap[k]?) : Rd w' br l := by
  obtain ⟨A, c, h1, h2, h3⟩ := h
  refine ⟨A, c, (hk br (Nat.le_refl _)).trans h1, ⟨h2.cap, h2.max, fun h0 => ?_⟩, h3⟩
  obtain ⟨b, off, e, hlt, hc⟩ := h2.at_ h0
  refine ⟨b, off, e, Nat.lt_of_lt_of_le hlt hs, fun i x hi => ?_⟩
  exact (World.cell?_of_block (w := w) (w' := w') (a := ⟨b, off + i, none⟩) (hk b (Nat.le_of_lt (h3 _ e)))).trans (hc i x hi)
theorem Rd.row {w w' : World} {br base m : Nat} {l : List Int} {x : Value} {xs : List Value} (h : Rd w br l) (hg : w.grownBy w' x.ownBlock) (ho : w.ownsRow base 48 3 x m xs) (hb : br < base) : Rd w' br l :=
  h.keep hg.size fun k hk => hg.block k (Nat.lt_of_le_of_lt hk h.lt) fun e => by have := (row_block ho e.symm).1; omega
theorem Rd.setHi {w : World} {br k i : Nat} {l : List Int} {v : Value} (h : Rd w br l) (hk : br < k) : Rd (w.setCell ⟨k, i, none⟩ v) br l :=
  h.keep (by simp [World.setCell]) fun j hj => Below.heap_setCell _ _ _ _ (by show j ≠ k; omega)
theorem Rd.setBox {w : World} {br k i : Nat} {l : List Int} {v : Value} {cs : Array Value} {t : TypeId} (h : Rd w br l) (hb : Bx w k cs t) (hn : ∀ u ∈ cs.toList, ∀ x, u ≠ .int .u8 x) (hne : br ≠ k) : Rd (w.setCell ⟨k, i, none⟩ v) br l := by
  obtain ⟨A, c, h1, h2, h3⟩ := h
  exact ⟨A, c, h1.other _ hne, by_keep h2 hb hn (gr_set _ _ _ _), h3⟩
theorem heap_far (w : World) {k j i : Nat} {v : Value} (h : j ≠ k) : (w.setCell ⟨k, i, none⟩ v).heap[j]? = w.heap[j]? := Below.heap_setCell _ _ _ _ h
theorem heap_far7 (w : World) {k j : Nat} {v0 v1 v2 v3 v4 v5 v6 : Value} (h : j ≠ k) : (((((((w.setCell ⟨k, 0, none⟩ v0).setCell ⟨k, 1, none⟩ v1).setCell ⟨k, 2, none⟩ v2).setCell ⟨k, 3, none⟩ v3).setCell ⟨k, 4, none⟩ v4).setCell ⟨k, 5, none⟩ v5).setCell ⟨k, 6, none⟩ v6).heap[j]? = w.heap[j]? := by
  rw [heap_far _ h, heap_far _ h, heap_far _ h, heap_far _ h, heap_far _ h, heap_far _ h, heap_far _ h]
theorem PtT.heq {w w' : World} {B n : Nat} {f g : Nat → Int} (h : PtT w B n f g) (he : w'.heap[B]? = w.heap[B]?) : PtT w' B n f g := h.keep fun cur hb => he.trans hb
theorem Rgs.heq {w w' : World} {g n c : Nat} {d : Nat → Bool} {v : Nat → Int} {Q : Nat → Option Addr × Nat × Nat} (h : Rgs w (Option.some ⟨g, 0, none⟩) n c d v Q) (he : w'.heap[g]? = w.heap[g]?) : Rgs w' (Option.some ⟨g, 0, none⟩) n c d v Q :=
  ⟨h.cap, h.max, h.isi, fun h0 => by
    obtain ⟨b, o, e, hlt, hc⟩ := h.at_ h0
    obtain ⟨rfl, rfl⟩ : g = b ∧ 0 = o := by simpa using e
    have hx : ∀ i, w'.cell? ⟨g, i, none⟩ = w.cell? ⟨g, i, none⟩ := fun i => World.cell?_of_block (w := w) (w' := w') (a := ⟨g, i, none⟩) he
    refine ⟨g, 0, rfl, ?_, fun i hi => ⟨(hx _).trans (hc i hi).1, (hx _).trans (hc i hi).2.1, (hx _).trans (hc i hi).2.2⟩⟩
    rcases Nat.lt_or_ge g w'.heap.size with h1 | h1
    · exact h1
    · rw [Array.getElem?_eq_none h1] at he
      rw [Array.getElem?_eq_getElem hlt] at he
      cases he⟩
end Go.Proofs.YtjdiilkljgljkaaGreatDoor
namespace Go.Proofs.YtjdiilkljgljkaaGreatDoor
set_option linter.unusedVariables false
set_option linter.unusedSimpArgs false
open Go.RowKit Wd


set_option maxHeartbeats 4000000 in
set_option maxRecDepth 100000 in
theorem codec_Decode4 (n : Nat) (d : Nat → Bool) (v : Nat → Int) (Q : Nat → Option Addr × Nat × Nat) (F G : Nat → Nat → Int) (ho : OkR n v Q) (hi : ∀ i, i < n → ∀ j, j < (Q i).2.1 → IsI (F i j) ∧ IsI (G i j)) (f g : Nat → Int) (hfg : ∀ i, i < 1 → IsI (f i) ∧ IsI (g i)) (A : Option Addr) (N c : Nat) (w : World) (hT : TabF w)
    (hN : (hdrB 4 n d v 0 ++ (rgsB Q F G n ++ ptsB f g 1)).length = N) (hb : By w A c (hdrB 4 n d v 0 ++ (rgsB Q F G n ++ ptsB f g 1))) :
    Calls Tryz.prog 54 #[.slice A N c] w fun e w' => (∃ (g1 hc r rc pb qb : Nat) (B : Nat → Nat), e = .returned (.tuple #[.agg #[.int .i64 4, .int .i64 0, .slice (some ⟨g1, 0, none⟩) n hc, .int .i64 0, .slice (some ⟨r, 0, none⟩) n rc, .slice (some ⟨pb, 0, none⟩) 1 1, .slice (some ⟨qb, 0, none⟩) 0 0], .int .i64 0]) ∧
      Rgs w' (some ⟨g1, 0, none⟩) n hc d v Q0 ∧ Rgs w' (some ⟨r, 0, none⟩) n rc d v (putQ B fun i => (Q i).2.1) ∧ RgP w' n (putQ B fun i => (Q i).2.1) F G ∧ Pts w' (some ⟨pb, 0, none⟩) 1 1 f g) ∧ Below w.heap.size w w' := by
  obtain ⟨i0, hi0, hz0, hz1, hz2⟩ := info_parts infoRg
  have HO := Lib.hid ho; have HI := Lib.hid hi; have HFG := Lib.hid hfg; have HT := Lib.hid hT; have HN := Lib.hid hN; have HBY := Lib.hid hb
  have h1 := ho.pos
  have h2 := ho.le
  have hmx := hb.cap; have hm2 := hb.max
  rw [hN] at hmx
  unfold maxLen at hm2
  have HLR := Lib.hid (show ((rgsB Q F G n ++ ptsB f g 1).length : Int) = payR 4 0 (sumZ v n) from by rw [List.length_append, ptsB_len]; have := rgsB_len F G ho.num n (Nat.le_refl _); unfold payR; simp; omega)
  have HLH := Lib.hid (show (hdrB 4 n d v 0).length = n + 2 from by simp [hdrB, ptsN, codL_len])
  have HLN := Lib.hid (show N = n + 2 + (rgsB Q F G n ++ ptsB f g 1).length ∧ 16 ≤ (rgsB Q F G n ++ ptsB f g 1).length from ⟨by rw [← hN, List.length_append, HLH.out], by rw [List.length_append, ptsB_len]; omega⟩)
  obtain ⟨b, off, rfl, -, -⟩ := hb.at_ (by simp [hdrB])
  clear ho hi hfg hT hN hb
  have hn2 : 2 + n < N := by have := HLN.out; omega
  go_enter Tryz.func54, Tryz.ntmps54
  go_wp2_with fail
  have HZ := Lib.hid (Bx.new w #[.int .i64 0, .int .i64 0, .slice none 0 0, .int .i64 0, .slice none 0 0, .slice none 0 0, .slice none 0 0] 99)
  have HBY1 := Lib.hid (HBY.out.alloc (.cells #[.int .i64 0, .int .i64 0, .slice none 0 0, .int .i64 0, .slice none 0 0, .slice none 0 0, .slice none 0 0] 99)); have HT1 := Lib.hid (HT.out.alloc (.cells #[.int .i64 0, .int .i64 0, .slice none 0 0, .int .i64 0, .slice none 0 0, .slice none 0 0, .slice none 0 0] 99))
  have HB1 := Lib.hid (show Below w.heap.size w (w.alloc (.cells #[.int .i64 0, .int .i64 0, .slice none 0 0, .int .i64 0, .slice none 0 0, .slice none 0 0, .slice none 0 0] 99)) from below_al below_rf)
  generalize w.alloc (.cells #[.int .i64 0, .int .i64 0, .slice none 0 0, .int .i64 0, .slice none 0 0, .slice none 0 0, .slice none 0 0] 99) = w1 at *
  clear HBY HT
  refine (header_ClassifyR 4 0 (.inl ⟨rfl, rfl⟩) n d v HO.out.toOkK _ HLR.out _ N c _ HT1.out HN.out HBY1.out).mono ?_
  rintro e w2 ⟨rfl, B⟩
  have HBY2 := Lib.hid (HBY1.out.below B (Nat.le_refl _)); have HZ2 := Lib.hid (HZ.out.below B (Nat.le_refl _)); have HB2 := Lib.hid (HB1.out.trans (B.mono HB1.out.size)); clear B HBY1 HT1 HZ HB1
  go_wp2_with fail
  refine (header_ParseR 4 0 (.inl ⟨rfl, rfl⟩) n d v HO.out.toOkK _ _ N c _ HN.out HBY2.out).mono ?_
  rintro e w3 ⟨⟨g1, hc, rfl, hg, hrg⟩, B⟩
  have HRG := Lib.hid hrg; have HBY3 := Lib.hid (HBY2.out.below B (Nat.le_refl _)); have HZ3 := Lib.hid (HZ2.out.below B (Nat.le_refl _)); have HB3 := Lib.hid (HB2.out.trans (B.mono HB2.out.size)); have HG1 := Lib.hid (show g1 ≠ w.heap.size from by have := HZ2.out.lt; omega); clear B HBY2 HZ2 HB2 hg hrg
  rw [show hlR 4 n = 2 + (n : Int) from by simp [hlR]]
  have t2 : (2 + (n : Int)).toNat = 2 + n := by omega
  have i2 : 0 ≤ 2 + (n : Int) := by omega
  have j2 : 2 + (n : Int) ≤ N := by omega
  have k2 : ¬ (c = 2 + n) := by omega
  have k3 : 2 + n ≤ N := by omega
  have k4 : N ≤ c := by omega
  go_wp2_with fail
  clear t2 i2 j2 k2 k3 k4
  have HLZ := Lib.hid (show w.heap.size < w3.heap.size from HZ3.out.lt)
  have HR := Lib.hid (show Rd (((w3.alloc (.cells #[.int .i64 4, .int .i64 0, .slice (some ⟨g1, 0, none⟩) n hc, .int .i64 0] 28)).alloc (.cells #[.int .i64 4, .int .i64 0, .slice (some ⟨g1, 0, none⟩) n hc, .int .i64 0, .slice none 0 0, .slice none 0 0, .slice none 0 0] 99)).alloc (.cells #[.slice (some ⟨b, off + (2 + n), none⟩) (N - (2 + n)) (c - (2 + n))] 131)) (w3.heap.size + 1 + 1) (rgsB Q F G n ++ ptsB f g 1) from by
    have hbl := HBY3.out
    obtain ⟨b', o', e', hlt', -⟩ := hbl.at_ (by simp [hdrB])
    obtain ⟨rfl, rfl⟩ : b = b' ∧ off = o' := by simpa using e'
    have h1 := hbl.drop
    rw [HLH.out] at h1
    refine ⟨some ⟨b, off + (n + 2), none⟩, c - (n + 2), ?_, ((h1.alloc _).alloc _).alloc _, fun a ha => by cases ha; show b < w3.heap.size + 1 + 1; omega⟩
    rw [show (rgsB Q F G n ++ ptsB f g 1).length = N - (2 + n) from by have := HLN.out; omega, Nat.add_comm n 2]; exact bx_new (by simp))
  have HH := Lib.hid (show Bx (((w3.alloc (.cells #[.int .i64 4, .int .i64 0, .slice (some ⟨g1, 0, none⟩) n hc, .int .i64 0] 28)).alloc (.cells #[.int .i64 4, .int .i64 0, .slice (some ⟨g1, 0, none⟩) n hc, .int .i64 0, .slice none 0 0, .slice none 0 0, .slice none 0 0] 99)).alloc (.cells #[.slice (some ⟨b, off + (2 + n), none⟩) (N - (2 + n)) (c - (2 + n))] 131)) w3.heap.size #[.int .i64 4, .int .i64 0, .slice (some ⟨g1, 0, none⟩) n hc, .int .i64 0] 28 from ((Bx.new _ _ _).alloc _).alloc _)
  have HQ := Lib.hid (show Bx (((w3.alloc (.cells #[.int .i64 4, .int .i64 0, .slice (some ⟨g1, 0, none⟩) n hc, .int .i64 0] 28)).alloc (.cells #[.int .i64 4, .int .i64 0, .slice (some ⟨g1, 0, none⟩) n hc, .int .i64 0, .slice none 0 0, .slice none 0 0, .slice none 0 0] 99)).alloc (.cells #[.slice (some ⟨b, off + (2 + n), none⟩) (N - (2 + n)) (c - (2 + n))] 131)) (w3.heap.size + 1) #[.int .i64 4, .int .i64 0, .slice (some ⟨g1, 0, none⟩) n hc, .int .i64 0, .slice none 0 0, .slice none 0 0, .slice none 0 0] 99 from (bx_new (by simp)).alloc _)
  have HZ6 := Lib.hid (show Bx (((w3.alloc (.cells #[.int .i64 4, .int .i64 0, .slice (some ⟨g1, 0, none⟩) n hc, .int .i64 0] 28)).alloc (.cells #[.int .i64 4, .int .i64 0, .slice (some ⟨g1, 0, none⟩) n hc, .int .i64 0, .slice none 0 0, .slice none 0 0, .slice none 0 0] 99)).alloc (.cells #[.slice (some ⟨b, off + (2 + n), none⟩) (N - (2 + n)) (c - (2 + n))] 131)) w.heap.size #[.int .i64 0, .int .i64 0, .slice none 0 0, .int .i64 0, .slice none 0 0, .slice none 0 0, .slice none 0 0] 99 from ((HZ3.out.alloc _).alloc _).alloc _)
  have HB6 := Lib.hid (show Below w3.heap.size w3 (((w3.alloc (.cells #[.int .i64 4, .int .i64 0, .slice (some ⟨g1, 0, none⟩) n hc, .int .i64 0] 28)).alloc (.cells #[.int .i64 4, .int .i64 0, .slice (some ⟨g1, 0, none⟩) n hc, .int .i64 0, .slice none 0 0, .slice none 0 0, .slice none 0 0] 99)).alloc (.cells #[.slice (some ⟨b, off + (2 + n), none⟩) (N - (2 + n)) (c - (2 + n))] 131)) from below_al (below_al (below_al below_rf)))
  have HS6 := Lib.hid (show (((w3.alloc (.cells #[.int .i64 4, .int .i64 0, .slice (some ⟨g1, 0, none⟩) n hc, .int .i64 0] 28)).alloc (.cells #[.int .i64 4, .int .i64 0, .slice (some ⟨g1, 0, none⟩) n hc, .int .i64 0, .slice none 0 0, .slice none 0 0, .slice none 0 0] 99)).alloc (.cells #[.slice (some ⟨b, off + (2 + n), none⟩) (N - (2 + n)) (c - (2 + n))] 131)).heap.size = w3.heap.size + 1 + 1 + 1 from by simp)
  generalize (((w3.alloc (.cells #[.int .i64 4, .int .i64 0, .slice (some ⟨g1, 0, none⟩) n hc, .int .i64 0] 28)).alloc (.cells #[.int .i64 4, .int .i64 0, .slice (some ⟨g1, 0, none⟩) n hc, .int .i64 0, .slice none 0 0, .slice none 0 0, .slice none 0 0] 99)).alloc (.cells #[.slice (some ⟨b, off + (2 + n), none⟩) (N - (2 + n)) (c - (2 + n))] 131)) = w6 at *
  clear HBY3 HZ3
  obtain ⟨hb, hhb⟩ : ∃ hb, hb = w3.heap.size := ⟨_, rfl⟩
  rw [← hhb] at HLZ HR HH HQ HB6 HS6 ⊢
  have HHB := Lib.hid hhb; clear hhb
  have HGC := Lib.hid (show g1 < hb ∧ ∀ i, i < n → w3.cell? ⟨g1, i * 3, none⟩ = some (.bool (d i)) ∧ w3.cell? ⟨g1, i * 3 + 1, none⟩ = some (.int .i64 (v i)) ∧ w3.cell? ⟨g1, i * 3 + 2, none⟩ = some (.slice none 0 0) from by
    obtain ⟨b', o', e', hlt', hc'⟩ := HRG.out.at_ (by omega)
    obtain ⟨rfl, rfl⟩ : g1 = b' ∧ 0 = o' := by simpa using e'
    rw [HHB.out]
    refine ⟨hlt', fun i hi => ?_⟩
    have := hc' i hi
    simpa [Q0] using this)
  have hhc := HRG.out.cap; have hhm := HRG.out.max
  unfold maxLen at hhm
  go_loopw [36] (fun ir wr => ∃ (m : Nat) (xr : Value) (B : Nat → Nat), m ≤ n ∧ ir = .int .i64 (m : Int) ∧ Rd wr (hb + 1 + 1) (rgsR Q F G m (n - m) ++ ptsB f g 1) ∧ Bx wr (hb + 1) #[.int .i64 4, .int .i64 0, .slice (some ⟨g1, 0, none⟩) n hc, .int .i64 0, xr, .slice none 0 0, .slice none 0 0] 99 ∧ OwR wr (hb + 1 + 1 + 1) xr m d v (putQ B fun i => (Q i).2.1) ∧ (∀ i, i < m → PtT wr (B i) (Q i).2.1 (F i) (G i)) ∧ Bx wr w.heap.size #[.int .i64 0, .int .i64 0, .slice none 0 0, .int .i64 0, .slice none 0 0, .slice none 0 0, .slice none 0 0] 99 ∧ Bx wr hb #[.int .i64 4, .int .i64 0, .slice (some ⟨g1, 0, none⟩) n hc, .int .i64 0] 28 ∧ Below hb w3 wr) (fun i _ => n - (intOf i).toNat)
  case atStart => exact ⟨0, .slice none 0 0, fun _ => 0, by omega, rfl, by have := HR.out; rw [rgsB_R0] at this; exact this, HQ.out, OwR.nil _ _ _ _ _, fun i hi => absurd hi (by omega), HZ6.out, HH.out, HB6.out⟩
  case round =>
    obtain ⟨m, xr, B, hm, rfl, hrd, hqx, how, hpt, hzx, hhx, hb_⟩ := hrel
    have HRD := Lib.hid hrd; have HQX := Lib.hid hqx; have HOW := Lib.hid how; have HPT := Lib.hid hpt; have HZX := Lib.hid hzx; have HHX := Lib.hid hhx; have HBX := Lib.hid hb_
    clear hrd hqx how hpt hzx hhx hb_
    by_cases hlt : m < n
    · have hgc := HGC.out.2 m hlt
      have hbe : ∀ i, wr.cell? ⟨g1, i, none⟩ = w3.cell? ⟨g1, i, none⟩ := fun i => HBX.out.cell (p := ⟨g1, i, none⟩) HGC.out.1
      have p0 := (hbe _).trans hgc.1
      have p1 := (hbe _).trans hgc.2.1
      have p2 := (hbe _).trans hgc.2.2
      clear hgc hbe
      have hms := Lib.hid (show n - (intOf (.int .i64 ((m : Int) + 1))).toNat < n - (intOf (.int .i64 (m : Int))).toNat from by simp [intOf]; omega)
      have HQN := Lib.hid (show (Q m).2.1 ≤ 10000 ∧ 0 < (Q m).2.1 from by have := HO.out.num m hlt; have := szf_range (v m); have := HO.out.toOkK.range hlt; omega)
      go_wp2_with fail
      clear p0 p1 p2
      obtain ⟨xa, xk, xc, rfl⟩ : ∃ a k c, xr = .slice a k c := by
        rcases HOW.out.2 with ⟨e, _⟩ | ⟨g', c', _, e, _⟩
        · exact ⟨_, _, _, e⟩
        · exact ⟨_, _, _, e⟩
      have HLT := Lib.hid HOW.out.lt
      have HGV := Lib.hid (show hb + 1 + 1 < wr.heap.size from HRD.out.lt)
      have HW3 := Lib.hid (show hb ≤ wr.heap.size from by have := HGV.out; omega)
      have HXV := Lib.hid (Bx.new wr #[.bool (d m), .int .i64 (v m), .slice none 0 0] 48)
      have HRD4 := Lib.hid (HRD.out.alloc (.cells #[.bool (d m), .int .i64 (v m), .slice none 0 0] 48)); have HQX4 := Lib.hid (HQX.out.alloc (.cells #[.bool (d m), .int .i64 (v m), .slice none 0 0] 48)); have HOW4 := Lib.hid (HOW.out.alloc (.cells #[.bool (d m), .int .i64 (v m), .slice none 0 0] 48)); have HPT4 := Lib.hid (fun i hi => (HPT.out i hi).alloc (.cells #[.bool (d m), .int .i64 (v m), .slice none 0 0] 48)); have HZX4 := Lib.hid (HZX.out.alloc (.cells #[.bool (d m), .int .i64 (v m), .slice none 0 0] 48)); have HHX4 := Lib.hid (HHX.out.alloc (.cells #[.bool (d m), .int .i64 (v m), .slice none 0 0] 48)); have HBX4 := Lib.hid (HBX.out.alloc HW3.out (.cells #[.bool (d m), .int .i64 (v m), .slice none 0 0] 48))
      clear HRD HQX HOW HPT HZX HHX HBX
      obtain ⟨gv, hgv⟩ : ∃ gv, gv = wr.heap.size := ⟨_, rfl⟩
      rw [← hgv] at HLT HGV HW3 HXV ⊢
      generalize wr.alloc (.cells #[.bool (d m), .int .i64 (v m), .slice none 0 0] 48) = w4 at *
      clear hgv
      refine (fence_Size (d m) (v m) none 0 0 _).mono ?_
      rintro e w5 ⟨rfl, B5⟩
      have HXV5 := Lib.hid (HXV.out.below B5 (Nat.le_refl _)); have HRD5 := Lib.hid (HRD4.out.below B5 (Nat.le_refl _)); have HQX5 := Lib.hid (HQX4.out.below B5 (Nat.le_refl _)); have HOW5 := Lib.hid (HOW4.out.below B5 (Nat.le_refl _)); have HPT5 := Lib.hid (fun i hi => (HPT4.out i hi).below B5 (Nat.le_refl _)); have HZX5 := Lib.hid (HZX4.out.below B5 (Nat.le_refl _)); have HHX5 := Lib.hid (HHX4.out.below B5 (Nat.le_refl _)); have HBX5 := Lib.hid (HBX4.out.trans (B5.mono (Nat.le_trans HW3.out (by have := HXV.out.lt; omega))))
      clear B5 HXV HRD4 HQX4 HOW4 HPT4 HZX4 HHX4 HBX4
      rw [← HO.out.num m hlt]
      go_wp2_with fail
      refine (take_ptsT (hb + 1 + 1) (Q m).2.1 HQN.out.1 (F m) (G m) (HI.out m hlt) (rgsR Q F G (m + 1) (n - (m + 1)) ++ ptsB f g 1) _ (by have := HRD5.out; rw [rgsR_step Q F G hlt, List.append_assoc] at this; exact this)).mono ?_
      rintro e w8 ⟨⟨B0, rfl, -, hP, hbx⟩, hR, g6⟩
      have HRD8 := Lib.hid hR
      have HPN8 := Lib.hid (show PtT w8 B0 (Q m).2.1 (F m) (G m) from ⟨hP, hbx HQN.out.2⟩)
      obtain ⟨A9, c9, hrb, -⟩ := HRD5.out
      have HXV8 := Lib.hid (bx_gr HXV5.out (by have := HGV.out; omega) g6); have HQX8 := Lib.hid (bx_gr HQX5.out (by omega) g6); have HOW8 := Lib.hid (HOW5.out.gr hrb (by decide) g6); have HPT8 := Lib.hid (fun i hi => (HPT5.out i hi).gr hrb (by decide) g6); have HZX8 := Lib.hid (bx_gr HZX5.out (by have := HLZ.out; omega) g6); have HHX8 := Lib.hid (bx_gr HHX5.out (by omega) g6); have HBX8 := Lib.hid (below_gr HBX5.out (by omega) (Nat.le_trans HW3.out (by have := HXV5.out.lt; omega)) g6)
      clear hP hbx hR g6 hrb HXV5 HRD5 HQX5 HOW5 HPT5 HZX5 HHX5 HBX5
      have HS8 := Lib.hid (show hb + 1 + 1 + 1 ≤ w8.heap.size from HRD8.out.lt)
      have c2 := HXV8.out.cell 2 (v := .slice none 0 0) rfl
      have z2 := HXV8.out.free 2
      have p0 := HXV8.out.cell 0 (v := .bool (d m)) rfl
      have p1 := HXV8.out.cell 1 (v := .int .i64 (v m)) rfl
      have q4 := HQX8.out.cell 4 (v := .slice xa xk xc) rfl
      have hn1 : ¬ (hb + 1 = gv) := by have := HGV.out; omega
      have hn2' : ¬ (gv = hb + 1) := by have := HGV.out; omega
      have OW := Lib.hid (show OwR ((w8.setCell ⟨gv, 2, none⟩ (.slice (some ⟨B0, 0, none⟩) (Q m).2.1 (Q m).2.1)).alloc (.cells #[.bool (d m), .int .i64 (v m), (.slice (some ⟨B0, 0, none⟩) (Q m).2.1 (Q m).2.1)] 48)) (hb + 1 + 1 + 1) (.slice xa xk xc) m d v (putQ B fun i => (Q i).2.1) from (HOW8.out.setNe (fun g' hg' => by have := HLT.out g' hg'; omega)).alloc _)
      have HGL := Lib.hid (show gv < w8.heap.size from HXV8.out.lt)
      go_wp2_with (at_builtin; refine wpList_append_own _ rfl _ _ 26 rfl (hb + 1 + 1 + 1) 48 i0 (.agg #[.bool false, .int .i64 0, .slice none 0 0]) 3 40 Tryz.underlying26 hi0 hz0 hz1 hz2 rfl (by decide) _ _ _ rfl OW.out ⟨w8.heap.size, 0, none⟩ 1 1 [.bool (d m), .int .i64 (v m), (.slice (some ⟨B0, 0, none⟩) (Q m).2.1 (Q m).2.1)] rfl rfl ?c1 ?c2 ?c3 ?c4 ?c5 ?_)
      case c1 => exact cells_three_at (by simp) _ _ _ _
      case c2 => simp [Value.oneCell']
      case c3 => skip; unfold maxLen; omega
      case c4 => skip; omega
      case c5 => (have := HS8.out; simp; omega)
      intro v' w' hown2 hgrow _
      clear c2 z2 p0 p1 q4
      have HRD9 := Lib.hid (((HRD8.out.setHi (i := 2) (v := (.slice (some ⟨B0, 0, none⟩) (Q m).2.1 (Q m).2.1)) HGV.out).alloc (.cells #[.bool (d m), .int .i64 (v m), (.slice (some ⟨B0, 0, none⟩) (Q m).2.1 (Q m).2.1)] 48)).row hgrow OW.out (by omega))
      have HQX9 := Lib.hid (bx_grownR ((HQX8.out.other (a := ⟨gv, 2, none⟩) (.slice (some ⟨B0, 0, none⟩) (Q m).2.1 (Q m).2.1) hn1).alloc (.cells #[.bool (d m), .int .i64 (v m), (.slice (some ⟨B0, 0, none⟩) (Q m).2.1 (Q m).2.1)] 48)) (by decide) hgrow OW.out)
      have HZX9 := Lib.hid (bx_grownR ((HZX8.out.other (a := ⟨gv, 2, none⟩) (.slice (some ⟨B0, 0, none⟩) (Q m).2.1 (Q m).2.1) (by have := HLZ.out; have := HGV.out; show w.heap.size ≠ gv; omega)).alloc (.cells #[.bool (d m), .int .i64 (v m), (.slice (some ⟨B0, 0, none⟩) (Q m).2.1 (Q m).2.1)] 48)) (by decide) hgrow OW.out)
      have HHX9 := Lib.hid (bx_grownR ((HHX8.out.other (a := ⟨gv, 2, none⟩) (.slice (some ⟨B0, 0, none⟩) (Q m).2.1 (Q m).2.1) (by have := HGV.out; show hb ≠ gv; omega)).alloc (.cells #[.bool (d m), .int .i64 (v m), (.slice (some ⟨B0, 0, none⟩) (Q m).2.1 (Q m).2.1)] 48)) (by decide) hgrow OW.out)
      have HPT9 := Lib.hid (fun i hi => (((HPT8.out i hi).set (i := 2) (v := (.slice (some ⟨B0, 0, none⟩) (Q m).2.1 (Q m).2.1)) HXV8.out (by decide)).alloc (.cells #[.bool (d m), .int .i64 (v m), (.slice (some ⟨B0, 0, none⟩) (Q m).2.1 (Q m).2.1)] 48)).row hgrow OW.out)
      have HPN9 := Lib.hid (((HPN8.out.set (i := 2) (v := (.slice (some ⟨B0, 0, none⟩) (Q m).2.1 (Q m).2.1)) HXV8.out (by decide)).alloc (.cells #[.bool (d m), .int .i64 (v m), (.slice (some ⟨B0, 0, none⟩) (Q m).2.1 (Q m).2.1)] 48)).row hgrow OW.out)
      have HBX9 := Lib.hid (below_grownR ((HBX8.out.setCell (p := ⟨gv, 2, none⟩) (show hb ≤ gv from HW3.out) (.slice (some ⟨B0, 0, none⟩) (Q m).2.1 (Q m).2.1)).alloc (by have := HS8.out; simp; omega) (.cells #[.bool (d m), .int .i64 (v m), (.slice (some ⟨B0, 0, none⟩) (Q m).2.1 (Q m).2.1)] 48)) (by have := HS8.out; simp; omega) (by omega) hgrow OW.out)
      have hPQ : putQ (setB B m B0) (fun i => (Q i).2.1) m = (some ⟨B0, 0, none⟩, (Q m).2.1, (Q m).2.1) := by unfold putQ; rw [setB_eq]
      rw [rgL_congr (Q' := putQ (setB B m B0) fun i => (Q i).2.1) m (fun i hi => putQ_lt hi)] at hown2
      obtain ⟨g2, cap2, rfl, -, -⟩ := hown2.form (by omega)
      have HO9 := Lib.hid (show OwR w' (hb + 1 + 1 + 1) (.slice (some ⟨g2, 0, none⟩) (m + 1) cap2) (m + 1) d v (putQ (setB B m B0) fun i => (Q i).2.1) from OwR.snoc (by rw [hPQ]; exact hown2) rfl)
      clear hown2 hgrow OW HRD8 HQX8 HOW8 HPT8 HPN8 HZX8 HHX8 HBX8 HXV8 hPQ
      have c4 := HQX9.out.cell 4 (v := .slice xa xk xc) rfl
      have z4 := HQX9.out.free 4
      go_wp2_with fail
      go_roundw
      case rel => exact ⟨m + 1, _, setB B m B0, hlt, by go_num, HRD9.out.setBox HQX9.out (by simp) (by omega), HQX9.out.set 4 _, HO9.out.setOther HQX9.out (by decide), fun i hi => by
          rcases (by omega : i < m ∨ i = m) with h | rfl
          · rw [setB_lt h]; exact (HPT9.out i h).set HQX9.out (by decide)
          · rw [setB_eq]; exact HPN9.out.set HQX9.out (by decide), HZX9.out.other (a := ⟨hb + 1, 4, none⟩) _ (by have := HLZ.out; show w.heap.size ≠ hb + 1; omega), HHX9.out.other (a := ⟨hb + 1, 4, none⟩) _ (by show hb ≠ hb + 1; omega), HBX9.out.setCell (p := ⟨hb + 1, 4, none⟩) (by show hb ≤ hb + 1; omega) _⟩
      case measure => exact hms.out
    · obtain rfl : m = n := by omega
      have HIV := Lib.hid (show ∀ i, i < m → IsI (v i) from fun i hi => by have := HO.out.toOkK.range hi; unfold IsI; omega)
      obtain ⟨r, rc, rfl, hrl, hrr, rcur, hrc⟩ := HOW.out.rgs (by omega) HIV.out
      have HRR := Lib.hid hrr; have HRC := Lib.hid hrc; have HRL := Lib.hid hrl; clear hrr hrc hrl HOW
      have HRD2 := Lib.hid (show Rd wr (hb + 1 + 1) (ptsB f g 1 ++ []) from by have := HRD.out; rw [Nat.sub_self] at this; simpa [rgsR] using this)
      have c0 := HHX.out.cell 0 (v := .int .i64 4) rfl; have c1 := HHX.out.cell 1 (v := .int .i64 0) rfl; have c2 := HHX.out.cell 2 (v := .slice (some ⟨g1, 0, none⟩) m hc) rfl; have c3 := HHX.out.cell 3 (v := .int .i64 0) rfl
      go_wp2_with fail
      clear c0 c1 c2 c3
      refine (codec_counts4 _ m hc _).mono ?_
      rintro e w5 ⟨rfl, B5⟩
      have HS3 := Lib.hid (show hb ≤ wr.heap.size from by have := HRD2.out.lt; omega)
      have HRD5 := Lib.hid (HRD2.out.below B5 (Nat.le_refl _)); have HQX5 := Lib.hid (HQX.out.below B5 (Nat.le_refl _)); have HRR5 := Lib.hid (HRR.out.below B5 (Nat.le_refl _)); have HRC5 := Lib.hid (HRC.out.below B5 (Nat.le_refl _)); have HPT5 := Lib.hid (fun i hi => (HPT.out i hi).below B5 (Nat.le_refl _)); have HZX5 := Lib.hid (HZX.out.below B5 (Nat.le_refl _)); have HBX5 := Lib.hid (HBX.out.trans (B5.mono HS3.out))
      clear B5 HRD HRD2 HQX HRR HRC HPT HZX HBX HHX
      go_wp2_with fail
      refine (take_ptsT (hb + 1 + 1) 1 (by decide) f g HFG.out [] _ HRD5.out).mono ?_
      rintro e w8 ⟨⟨pb, rfl, -, hP, hbx⟩, hR, g6⟩
      have HPN8 := Lib.hid (show PtT w8 pb 1 f g from ⟨hP, hbx (by decide)⟩)
      obtain ⟨A9, c9, hrb, -⟩ := HRD5.out
      have hs8 : hb + 1 + 1 < w8.heap.size := hR.lt
      have HRB8 := Lib.hid hs8
      have HQX8 := Lib.hid (bx_gr HQX5.out (by omega) g6); have HRC8 := Lib.hid (bx_gr HRC5.out (bx_ne HRC5.out hrb (by decide)) g6); have HPT8 := Lib.hid (fun i hi => (HPT5.out i hi).gr hrb (by decide) g6); have HZX8 := Lib.hid (bx_gr HZX5.out (by have := HLZ.out; omega) g6); have HBX8 := Lib.hid (below_gr HBX5.out (by omega) (by have := HQX5.out.lt; omega) g6)
      clear hP hbx hR g6 hrb HRD5 HQX5 HPT5 HZX5 HBX5 hs8
      have c5 := HQX8.out.cell 5 (v := .slice none 0 0) rfl
      have z5 := HQX8.out.free 5
      go_wp2_with fail
      clear c5 z5
      have HQ9 := Lib.hid (HQX8.out.set 5 (.slice (some ⟨pb, 0, none⟩) 1 1)); have HP9 := Lib.hid (HPN8.out.set (i := 5) (v := .slice (some ⟨pb, 0, none⟩) 1 1) HQX8.out (by decide)); have HPT9 := Lib.hid (fun i hi => (HPT8.out i hi).set (i := 5) (v := .slice (some ⟨pb, 0, none⟩) 1 1) HQX8.out (by decide)); have HRC9 := Lib.hid (HRC8.out.other (a := ⟨hb + 1, 5, none⟩) (.slice (some ⟨pb, 0, none⟩) 1 1) (bx_ne HRC8.out HQX8.out (by decide))); have HZ9 := Lib.hid (HZX8.out.other (a := ⟨hb + 1, 5, none⟩) (.slice (some ⟨pb, 0, none⟩) 1 1) (by have := HLZ.out; show w.heap.size ≠ hb + 1; omega)); have HB9 := Lib.hid (HBX8.out.setCell (p := ⟨hb + 1, 5, none⟩) (by show hb ≤ hb + 1; omega) (.slice (some ⟨pb, 0, none⟩) 1 1))
      have HS9 := Lib.hid (show hb ≤ (w8.setCell ⟨hb + 1, 5, none⟩ (.slice (some ⟨pb, 0, none⟩) 1 1)).heap.size from by have := HRB8.out; simp; omega)
      generalize w8.setCell ⟨hb + 1, 5, none⟩ (.slice (some ⟨pb, 0, none⟩) 1 1) = w9 at *
      clear HQX8 HPN8 HPT8 HRC8 HZX8 HBX8
      refine (take_qus0 _ _).mono ?_
      rintro e w10 ⟨rfl, B10⟩
      have HQ10 := Lib.hid (HQ9.out.below B10 (Nat.le_refl _)); have HP10 := Lib.hid (HP9.out.below B10 (Nat.le_refl _)); have HPT10 := Lib.hid (fun i hi => (HPT9.out i hi).below B10 (Nat.le_refl _)); have HRC10 := Lib.hid (HRC9.out.below B10 (Nat.le_refl _)); have HZ10 := Lib.hid (HZ9.out.below B10 (Nat.le_refl _)); have HB10 := Lib.hid (HB9.out.trans (B10.mono HS9.out)); clear B10 HQ9 HP9 HPT9 HRC9 HZ9 HB9
      have c6 := HQ10.out.cell 6 (v := .slice none 0 0) rfl
      have z6 := HQ10.out.free 6
      have HQ11 := Lib.hid (HQ10.out.set 6 (.slice (some ⟨w9.heap.size, 0, none⟩) 0 0)); have HZ11 := Lib.hid (HZ10.out.other (a := ⟨hb + 1, 6, none⟩) (.slice (some ⟨w9.heap.size, 0, none⟩) 0 0) (by have := HLZ.out; show w.heap.size ≠ hb + 1; omega)); have HP11 := Lib.hid (HP10.out.set (i := 6) (v := (.slice (some ⟨w9.heap.size, 0, none⟩) 0 0)) HQ10.out (by decide)); have HPT11 := Lib.hid (fun i hi => (HPT10.out i hi).set (i := 6) (v := (.slice (some ⟨w9.heap.size, 0, none⟩) 0 0)) HQ10.out (by decide)); have HRC11 := Lib.hid (HRC10.out.other (a := ⟨hb + 1, 6, none⟩) (.slice (some ⟨w9.heap.size, 0, none⟩) 0 0) (bx_ne HRC10.out HQ10.out (by decide))); have HB11 := Lib.hid (HB10.out.setCell (p := ⟨hb + 1, 6, none⟩) (by show hb ≤ hb + 1; omega) (.slice (some ⟨w9.heap.size, 0, none⟩) 0 0))
      have d0 := HQ11.out.cell 0 (v := .int .i64 4) rfl; have d1 := HQ11.out.cell 1 (v := .int .i64 0) rfl; have d2 := HQ11.out.cell 2 (v := .slice (some ⟨g1, 0, none⟩) m hc) rfl; have d3 := HQ11.out.cell 3 (v := .int .i64 0) rfl; have d4 := HQ11.out.cell 4 (v := .slice (some ⟨r, 0, none⟩) m rc) rfl; have d5 := HQ11.out.cell 5 (v := .slice (some ⟨pb, 0, none⟩) 1 1) rfl; have d6 := HQ11.out.cell 6 (v := .slice (some ⟨w9.heap.size, 0, none⟩) 0 0) rfl
      have e0 := HZ11.out.cell 0 (v := .int .i64 0) rfl; have y0 := HZ11.out.free 0; have e1 := HZ11.out.cell 1 (v := .int .i64 0) rfl; have y1 := HZ11.out.free 1; have e2 := HZ11.out.cell 2 (v := .slice none 0 0) rfl; have y2 := HZ11.out.free 2; have e3 := HZ11.out.cell 3 (v := .int .i64 0) rfl; have y3 := HZ11.out.free 3; have e4 := HZ11.out.cell 4 (v := .slice none 0 0) rfl; have y4 := HZ11.out.free 4; have e5 := HZ11.out.cell 5 (v := .slice none 0 0) rfl; have y5 := HZ11.out.free 5; have e6 := HZ11.out.cell 6 (v := .slice none 0 0) rfl; have y6 := HZ11.out.free 6
      go_wp2_with fail
      clear c6 z6 d0 d1 d2 d3 d4 d5 d6 e0 y0 e1 y1 e2 y2 e3 y3 e4 y4 e5 y5 e6 y6 HQ11 HQ10 HP10 HPT10 HRC10 HZ10 HB10
      generalize w10.setCell ⟨hb + 1, 6, none⟩ (.slice (some ⟨w9.heap.size, 0, none⟩) 0 0) = w11 at *
      have HG12 := Lib.hid (show Rgs (((((((w11.setCell ⟨w.heap.size, 0, none⟩ (.int .i64 4)).setCell ⟨w.heap.size, 1, none⟩ (.int .i64 0)).setCell ⟨w.heap.size, 2, none⟩ (.slice (some ⟨g1, 0, none⟩) m hc)).setCell ⟨w.heap.size, 3, none⟩ (.int .i64 0)).setCell ⟨w.heap.size, 4, none⟩ (.slice (some ⟨r, 0, none⟩) m rc)).setCell ⟨w.heap.size, 5, none⟩ (.slice (some ⟨pb, 0, none⟩) 1 1)).setCell ⟨w.heap.size, 6, none⟩ (.slice (some ⟨w9.heap.size, 0, none⟩) 0 0)) (some ⟨g1, 0, none⟩) m hc d v Q0 from (HRG.out.heq (HB11.out.block g1 HGC.out.1)).heq (heap_far7 _ HG1.out))
      have HRN := Lib.hid (show r ≠ w.heap.size from by have := HRL.out; have := HLZ.out; omega)
      have HR12 := Lib.hid (show Rgs (((((((w11.setCell ⟨w.heap.size, 0, none⟩ (.int .i64 4)).setCell ⟨w.heap.size, 1, none⟩ (.int .i64 0)).setCell ⟨w.heap.size, 2, none⟩ (.slice (some ⟨g1, 0, none⟩) m hc)).setCell ⟨w.heap.size, 3, none⟩ (.int .i64 0)).setCell ⟨w.heap.size, 4, none⟩ (.slice (some ⟨r, 0, none⟩) m rc)).setCell ⟨w.heap.size, 5, none⟩ (.slice (some ⟨pb, 0, none⟩) 1 1)).setCell ⟨w.heap.size, 6, none⟩ (.slice (some ⟨w9.heap.size, 0, none⟩) 0 0)) (some ⟨r, 0, none⟩) m rc d v (putQ B fun i => (Q i).2.1) from (HRR5.out.heq ((show w11.heap[r]? = _ from HRC11.out).trans (show _ = w5.heap[r]? from HRC5.out.symm))).heq (heap_far7 _ HRN.out))
      have HPT12 := Lib.hid (show ∀ i, i < m → PtT (((((((w11.setCell ⟨w.heap.size, 0, none⟩ (.int .i64 4)).setCell ⟨w.heap.size, 1, none⟩ (.int .i64 0)).setCell ⟨w.heap.size, 2, none⟩ (.slice (some ⟨g1, 0, none⟩) m hc)).setCell ⟨w.heap.size, 3, none⟩ (.int .i64 0)).setCell ⟨w.heap.size, 4, none⟩ (.slice (some ⟨r, 0, none⟩) m rc)).setCell ⟨w.heap.size, 5, none⟩ (.slice (some ⟨pb, 0, none⟩) 1 1)).setCell ⟨w.heap.size, 6, none⟩ (.slice (some ⟨w9.heap.size, 0, none⟩) 0 0)) (B i) (Q i).2.1 (F i) (G i) from fun i hi => (HPT11.out i hi).heq (heap_far7 _ (by obtain ⟨_, hx⟩ := (HPT11.out i hi).box; exact bx_ne hx HZ11.out (by decide))))
      have HP12 := Lib.hid (show PtT (((((((w11.setCell ⟨w.heap.size, 0, none⟩ (.int .i64 4)).setCell ⟨w.heap.size, 1, none⟩ (.int .i64 0)).setCell ⟨w.heap.size, 2, none⟩ (.slice (some ⟨g1, 0, none⟩) m hc)).setCell ⟨w.heap.size, 3, none⟩ (.int .i64 0)).setCell ⟨w.heap.size, 4, none⟩ (.slice (some ⟨r, 0, none⟩) m rc)).setCell ⟨w.heap.size, 5, none⟩ (.slice (some ⟨pb, 0, none⟩) 1 1)).setCell ⟨w.heap.size, 6, none⟩ (.slice (some ⟨w9.heap.size, 0, none⟩) 0 0)) pb 1 f g from HP11.out.heq (heap_far7 _ (by obtain ⟨_, hx⟩ := HP11.out.box; exact bx_ne hx HZ11.out (by decide))))
      have HB12 := Lib.hid (show Below w.heap.size w (((((((w11.setCell ⟨w.heap.size, 0, none⟩ (.int .i64 4)).setCell ⟨w.heap.size, 1, none⟩ (.int .i64 0)).setCell ⟨w.heap.size, 2, none⟩ (.slice (some ⟨g1, 0, none⟩) m hc)).setCell ⟨w.heap.size, 3, none⟩ (.int .i64 0)).setCell ⟨w.heap.size, 4, none⟩ (.slice (some ⟨r, 0, none⟩) m rc)).setCell ⟨w.heap.size, 5, none⟩ (.slice (some ⟨pb, 0, none⟩) 1 1)).setCell ⟨w.heap.size, 6, none⟩ (.slice (some ⟨w9.heap.size, 0, none⟩) 0 0)) from below_st (Nat.le_refl _) (below_st (Nat.le_refl _) (below_st (Nat.le_refl _) (below_st (Nat.le_refl _) (below_st (Nat.le_refl _) (below_st (Nat.le_refl _) (below_st (Nat.le_refl _) (HB3.out.trans (HB11.out.mono (by have := HLZ.out; omega))))))))))
      have HZ12 := Lib.hid (show Bx (((((((w11.setCell ⟨w.heap.size, 0, none⟩ (.int .i64 4)).setCell ⟨w.heap.size, 1, none⟩ (.int .i64 0)).setCell ⟨w.heap.size, 2, none⟩ (.slice (some ⟨g1, 0, none⟩) m hc)).setCell ⟨w.heap.size, 3, none⟩ (.int .i64 0)).setCell ⟨w.heap.size, 4, none⟩ (.slice (some ⟨r, 0, none⟩) m rc)).setCell ⟨w.heap.size, 5, none⟩ (.slice (some ⟨pb, 0, none⟩) 1 1)).setCell ⟨w.heap.size, 6, none⟩ (.slice (some ⟨w9.heap.size, 0, none⟩) 0 0)) w.heap.size #[.int .i64 4, .int .i64 0, .slice (some ⟨g1, 0, none⟩) m hc, .int .i64 0, .slice (some ⟨r, 0, none⟩) m rc, .slice (some ⟨pb, 0, none⟩) 1 1, .slice (some ⟨w9.heap.size, 0, none⟩) 0 0] 99 from ((((((HZ11.out.set 0 _).set 1 _).set 2 _).set 3 _).set 4 _).set 5 _).set 6 _)
      generalize (((((((w11.setCell ⟨w.heap.size, 0, none⟩ (.int .i64 4)).setCell ⟨w.heap.size, 1, none⟩ (.int .i64 0)).setCell ⟨w.heap.size, 2, none⟩ (.slice (some ⟨g1, 0, none⟩) m hc)).setCell ⟨w.heap.size, 3, none⟩ (.int .i64 0)).setCell ⟨w.heap.size, 4, none⟩ (.slice (some ⟨r, 0, none⟩) m rc)).setCell ⟨w.heap.size, 5, none⟩ (.slice (some ⟨pb, 0, none⟩) 1 1)).setCell ⟨w.heap.size, 6, none⟩ (.slice (some ⟨w9.heap.size, 0, none⟩) 0 0)) = w12 at *
      have q0 := HZ12.out.cell 0 (v := .int .i64 4) rfl; have q1 := HZ12.out.cell 1 (v := .int .i64 0) rfl; have q2 := HZ12.out.cell 2 (v := .slice (some ⟨g1, 0, none⟩) m hc) rfl; have q3 := HZ12.out.cell 3 (v := .int .i64 0) rfl; have q4 := HZ12.out.cell 4 (v := .slice (some ⟨r, 0, none⟩) m rc) rfl; have q5 := HZ12.out.cell 5 (v := .slice (some ⟨pb, 0, none⟩) 1 1) rfl; have q6 := HZ12.out.cell 6 (v := .slice (some ⟨w9.heap.size, 0, none⟩) 0 0) rfl
      refine bodyPost_ret (v := .tuple #[.agg #[.int .i64 4, .int .i64 0, .slice (some ⟨g1, 0, none⟩) m hc, .int .i64 0, .slice (some ⟨r, 0, none⟩) m rc, .slice (some ⟨pb, 0, none⟩) 1 1, .slice (some ⟨w9.heap.size, 0, none⟩) 0 0], .int .i64 0]) (by simp [results, Tryz.results54, go_sem, q0, q1, q2, q3, q4, q5, q6]) rfl ⟨⟨g1, hc, r, rc, pb, _, B, rfl, HG12.out, HR12.out, ⟨fun i hi => (HPT12.out i hi).pts⟩, HP12.out.pts⟩, HB12.out⟩
end Go.Proofs.YtjdiilkljgljkaaGreatDoor
namespace Go.Proofs.YtjdiilkljgljkaaGreatDoor
set_option linter.unusedVariables false
set_option linter.unusedSimpArgs false
open Go.RowKit Wd


theorem rgs_ne {w : World} {g1 n c k : Nat} {d : Nat → Bool} {v : Nat → Int} {Q : Nat → Option Addr × Nat × Nat} {x : Value} {t : TypeId} (h : Rgs w (Option.some ⟨g1, 0, none⟩) n c d v Q) (hn : 0 < n) (hb : Bx w k #[x] t) : g1 ≠ k := by
  rintro rfl
  obtain ⟨b, o, e, _, hc⟩ := h.at_ hn
  obtain ⟨rfl, rfl⟩ : g1 = b ∧ 0 = o := by simpa using e
  have h1 := (hc 0 hn).2.1
  unfold Bx at hb
  simp [World.cell?, hb] at h1
theorem pts_ne {w : World} {B n c k : Nat} {f g : Nat → Int} {x : Value} {t : TypeId} (h : Pts w (Option.some ⟨B, 0, none⟩) n c f g) (hn : 0 < n) (hb : Bx w k #[x] t) : B ≠ k := by
  rintro rfl
  obtain ⟨b, o, e, _, hc⟩ := h.at_ hn
  obtain ⟨rfl, rfl⟩ : B = b ∧ 0 = o := by simpa using e
  have h1 := (hc 0 hn).2
  unfold Bx at hb
  simp [World.cell?, hb] at h1
theorem vR_putQ (v : Nat → Int) (Q : Nat → Option Addr × Nat × Nat) (F G : Nat → Nat → Int) (B : Nat → Nat) : vR v (putQ B fun i => (Q i).2.1) F G = vR v Q F G := rfl
theorem lR_putQ (v : Nat → Int) (Q : Nat → Option Addr × Nat × Nat) (F G : Nat → Nat → Int) (B : Nat → Nat) (x y : Int) : lR v (putQ B fun i => (Q i).2.1) F G x y = lR v Q F G x y := rfl
theorem fenA_range (a b : Bool) : fenA a b = 0 ∨ fenA a b = 1 ∨ fenA a b = 2 := by cases a <;> cases b <;> decide
set_option maxHeartbeats 4000000 in
set_option maxRecDepth 100000 in
theorem serve_Traced4 (n : Nat) (d : Nat → Bool) (v : Nat → Int) (Q : Nat → Option Addr × Nat × Nat) (F G : Nat → Nat → Int) (ho : OkR n v Q) (hi : ∀ i, i < n → ∀ j, j < (Q i).2.1 → IsI (F i j) ∧ IsI (G i j)) (f g : Nat → Int) (hfg : ∀ i, i < 1 → IsI (f i) ∧ IsI (g i)) (A : Option Addr) (N c : Nat) (w : World) (hT : TabM w) (hF : TabF w) (hN : (hdrB 4 n d v 0 ++ (rgsB Q F G n ++ ptsB f g 1)).length = N) (hb : By w A c (hdrB 4 n d v 0 ++ (rgsB Q F G n ++ ptsB f g 1))) :
    Calls Tryz.prog 30 #[.pointer none, .slice A N c] w fun e w' => (∃ A' c', e = .returned (.slice A' 2 c') ∧ By w' A' c' [0, fenA (allB (vR v Q F G) n) (memR d (lR v Q F G (f 0) (g 0)) n)]) ∧ Below w.heap.size w w' := by
  have HB0 := Lib.hid (Below.refl w.heap.size w); have FT := Lib.hid hT; have FF := Lib.hid hF; have FB := Lib.hid hb; have HI := Lib.hid hi; have HFG := Lib.hid hfg; have HN := Lib.hid hN; have HO := Lib.hid ho; have HT0 := FT; have hpos := ho.pos; have HPOS := Lib.hid hpos; clear hT hF hb hi hfg hN ho hpos
  have hmf : ∀ (fn : Fn) (first cap : Array Value) (w : World), (Instr.makeFunc fn first cap).run Tryz.prog w = .ok (.func fn first cap) w := fun _ _ _ _ => rfl
  go_enter_defers Tryz.func30, Tryz.ntmps30
  go_wp2_with fail
  have B : Below w.heap.size w ((w.alloc (.cells #[.slice none 0 0] 24)).alloc (.cells #[.int .i64 0] 67)) := ((HB0.out.alloc HB0.out.size _).alloc (HB0.out.alloc HB0.out.size _).size _)
  have C : Below w.heap.size w ((w.alloc (.cells #[.slice none 0 0] 24)).alloc (.cells #[.int .i64 0] 67)) := (((Below.refl w.heap.size w).alloc (Nat.le_refl _) _).alloc (by simp; try omega) _)
  have X0 : Bx ((w.alloc (.cells #[.slice none 0 0] 24)).alloc (.cells #[.int .i64 0] 67)) (w.heap.size) #[.slice none 0 0] 24 := by simpa using ((Bx.new w #[.slice none 0 0] 24).alloc _)
  have X1 : Bx ((w.alloc (.cells #[.slice none 0 0] 24)).alloc (.cells #[.int .i64 0] 67)) (w.heap.size + 1) #[.int .i64 0] 67 := by simpa using (Bx.new (w.alloc (.cells #[.slice none 0 0] 24)) #[.int .i64 0] 67)
  have FT_1 := Lib.hid (FT.out.below C (Nat.le_refl _))
  have FF_1 := Lib.hid (FF.out.below C (Nat.le_refl _))
  have FB_1 := Lib.hid (FB.out.below C (Nat.le_refl _))
  have HB1 := Lib.hid B
  have FO_1 := Lib.hid X0
  have FE_1 := Lib.hid X1
  clear B C X0 X1 HB0 FT FF FB
  generalize ((w.alloc (.cells #[.slice none 0 0] 24)).alloc (.cells #[.int .i64 0] 67)) = w1 at *
  skip
  refine (codec_Decode4 n d v Q F G HO.out HI.out f g HFG.out A N c _ FF_1.out HN.out FB_1.out).mono ?_
  rintro e w2 ⟨⟨g1, hc, r, rc, pb, qb, B_, rfl, hG, hR, hP4, hX⟩, B⟩
  have HB2 := Lib.hid (HB1.out.trans (B.mono HB1.out.size))
  have FT_2 := Lib.hid (FT_1.out.below B (Nat.le_refl _))
  have FF_2 := Lib.hid (FF_1.out.below B (Nat.le_refl _))
  have FB_2 := Lib.hid (FB_1.out.below B (Nat.le_refl _))
  have FO_2 := Lib.hid (FO_1.out.below B (Nat.le_refl _))
  have FE_2 := Lib.hid (FE_1.out.below B (Nat.le_refl _))
  have FH_2 := Lib.hid hG
  have FG_2 := Lib.hid hR
  have FP_2 := Lib.hid hP4
  have FX_2 := Lib.hid hX
  clear B hG hR hP4 hX HB1 FT_1 FF_1 FB_1 FO_1 FE_1
  have e0 := FE_2.out.cell 0 (v := .int .i64 0) rfl; have ez := FE_2.out.free 0
  have d0 := (FE_2.out.alloc (.cells #[.int .i64 4, .int .i64 0, .slice (some ⟨g1, 0, none⟩) n hc, .int .i64 0, .slice (some ⟨r, 0, none⟩) n rc, .slice (some ⟨pb, 0, none⟩) 1 1, .slice (some ⟨qb, 0, none⟩) 0 0] 99)).cell 0 (v := .int .i64 0) rfl; have dz := (FE_2.out.alloc (.cells #[.int .i64 4, .int .i64 0, .slice (some ⟨g1, 0, none⟩) n hc, .int .i64 0, .slice (some ⟨r, 0, none⟩) n rc, .slice (some ⟨pb, 0, none⟩) 1 1, .slice (some ⟨qb, 0, none⟩) 0 0] 99)).free 0
  go_upto_region 4 with (fail)
  clear e0 ez d0 dz
  have HR3 := Lib.hid (show Bx ((w2.alloc (.cells #[.int .i64 4, .int .i64 0, .slice (some ⟨g1, 0, none⟩) n hc, .int .i64 0, .slice (some ⟨r, 0, none⟩) n rc, .slice (some ⟨pb, 0, none⟩) 1 1, .slice (some ⟨qb, 0, none⟩) 0 0] 99)).setCell ⟨w.heap.size + 1, 0, none⟩ (.int .i64 0)) w2.heap.size #[.int .i64 4, .int .i64 0, .slice (some ⟨g1, 0, none⟩) n hc, .int .i64 0, .slice (some ⟨r, 0, none⟩) n rc, .slice (some ⟨pb, 0, none⟩) 1 1, .slice (some ⟨qb, 0, none⟩) 0 0] 99 from (Bx.new _ _ _).other _ (by have := FE_2.out.lt; show w2.heap.size ≠ w.heap.size + 1; omega))
  have HE3 := Lib.hid (show Bx ((w2.alloc (.cells #[.int .i64 4, .int .i64 0, .slice (some ⟨g1, 0, none⟩) n hc, .int .i64 0, .slice (some ⟨r, 0, none⟩) n rc, .slice (some ⟨pb, 0, none⟩) 1 1, .slice (some ⟨qb, 0, none⟩) 0 0] 99)).setCell ⟨w.heap.size + 1, 0, none⟩ (.int .i64 0)) (w.heap.size + 1) #[.int .i64 0] 67 from (FE_2.out.alloc _).set 0 _)
  have HO3 := Lib.hid (show Bx ((w2.alloc (.cells #[.int .i64 4, .int .i64 0, .slice (some ⟨g1, 0, none⟩) n hc, .int .i64 0, .slice (some ⟨r, 0, none⟩) n rc, .slice (some ⟨pb, 0, none⟩) 1 1, .slice (some ⟨qb, 0, none⟩) 0 0] 99)).setCell ⟨w.heap.size + 1, 0, none⟩ (.int .i64 0)) w.heap.size #[.slice none 0 0] 24 from (FO_2.out.alloc _).other _ (by show w.heap.size ≠ w.heap.size + 1; omega))
  have HX3 := Lib.hid (show Pts ((w2.alloc (.cells #[.int .i64 4, .int .i64 0, .slice (some ⟨g1, 0, none⟩) n hc, .int .i64 0, .slice (some ⟨r, 0, none⟩) n rc, .slice (some ⟨pb, 0, none⟩) 1 1, .slice (some ⟨qb, 0, none⟩) 0 0] 99)).setCell ⟨w.heap.size + 1, 0, none⟩ (.int .i64 0)) (some ⟨pb, 0, none⟩) 1 1 f g from (FX_2.out.alloc _).setFar (pts_ne FX_2.out (by decide) FE_2.out))
  have HH3 := Lib.hid (show Rgs ((w2.alloc (.cells #[.int .i64 4, .int .i64 0, .slice (some ⟨g1, 0, none⟩) n hc, .int .i64 0, .slice (some ⟨r, 0, none⟩) n rc, .slice (some ⟨pb, 0, none⟩) 1 1, .slice (some ⟨qb, 0, none⟩) 0 0] 99)).setCell ⟨w.heap.size + 1, 0, none⟩ (.int .i64 0)) (some ⟨g1, 0, none⟩) n hc d v Q0 from (FH_2.out.alloc _).setFar (rgs_ne FH_2.out HPOS.out FE_2.out))
  have HG3 := Lib.hid (show Rgs ((w2.alloc (.cells #[.int .i64 4, .int .i64 0, .slice (some ⟨g1, 0, none⟩) n hc, .int .i64 0, .slice (some ⟨r, 0, none⟩) n rc, .slice (some ⟨pb, 0, none⟩) 1 1, .slice (some ⟨qb, 0, none⟩) 0 0] 99)).setCell ⟨w.heap.size + 1, 0, none⟩ (.int .i64 0)) (some ⟨r, 0, none⟩) n rc d v (putQ B_ fun i => (Q i).2.1) from (FG_2.out.alloc _).setFar (rgs_ne FG_2.out HPOS.out FE_2.out))
  have HP3 := Lib.hid (show RgP ((w2.alloc (.cells #[.int .i64 4, .int .i64 0, .slice (some ⟨g1, 0, none⟩) n hc, .int .i64 0, .slice (some ⟨r, 0, none⟩) n rc, .slice (some ⟨pb, 0, none⟩) 1 1, .slice (some ⟨qb, 0, none⟩) 0 0] 99)).setCell ⟨w.heap.size + 1, 0, none⟩ (.int .i64 0)) n (putQ B_ fun i => (Q i).2.1) F G from ⟨fun i hi => by
    have h := FP_2.out.pts i hi
    have hk : 0 < (Q i).2.1 := by have := HO.out.num i hi; have := HO.out.toOkK.range hi; omega
    exact Pts.setFar (B := B_ i) (off := 0) (h.alloc _) (pts_ne (B := B_ i) h hk FE_2.out)⟩)
  have HB3 := Lib.hid (show Below w.heap.size w ((w2.alloc (.cells #[.int .i64 4, .int .i64 0, .slice (some ⟨g1, 0, none⟩) n hc, .int .i64 0, .slice (some ⟨r, 0, none⟩) n rc, .slice (some ⟨pb, 0, none⟩) 1 1, .slice (some ⟨qb, 0, none⟩) 0 0] 99)).setCell ⟨w.heap.size + 1, 0, none⟩ (.int .i64 0)) from (HB2.out.alloc HB2.out.size _).setCell (p := ⟨w.heap.size + 1, 0, none⟩) (by show w.heap.size ≤ w.heap.size + 1; omega) _)
  have HT3 := Lib.hid (HT0.out.below HB3.out (Nat.le_refl _))
  have HOK := Lib.hid (show OkR n v (putQ B_ fun i => (Q i).2.1) from ⟨HO.out.toOkK, HO.out.num⟩)
  generalize ((w2.alloc (.cells #[.int .i64 4, .int .i64 0, .slice (some ⟨g1, 0, none⟩) n hc, .int .i64 0, .slice (some ⟨r, 0, none⟩) n rc, .slice (some ⟨pb, 0, none⟩) 1 1, .slice (some ⟨qb, 0, none⟩) 0 0] 99)).setCell ⟨w.heap.size + 1, 0, none⟩ (.int .i64 0)) = w3 at *
  generalize w2.heap.size = rb at *
  clear FE_2 FO_2 FP_2 FX_2 FH_2 FG_2 HB2 FT_2
  have vE0 := HE3.out.cell 0 (v := .int .i64 0) rfl
  have vR0 := HR3.out.cell 0 (v := .int .i64 4) rfl
  have vR1 := HR3.out.cell 1 (v := .int .i64 0) rfl
  have vR2 := HR3.out.cell 2 (v := .slice (some ⟨g1, 0, none⟩) n hc) rfl
  have vR3 := HR3.out.cell 3 (v := .int .i64 0) rfl
  have vR4 := HR3.out.cell 4 (v := .slice (some ⟨r, 0, none⟩) n rc) rfl
  have vR5 := HR3.out.cell 5 (v := .slice (some ⟨pb, 0, none⟩) 1 1) rfl
  have vR6 := HR3.out.cell 6 (v := .slice (some ⟨qb, 0, none⟩) 0 0) rfl
  go_wp2_with fail
  refine (serve_Handle4 (some ⟨g1, 0, none⟩) hc Q0 (some ⟨r, 0, none⟩) n rc d v (putQ B_ fun i => (Q i).2.1) F G pb 1 f g (some ⟨qb, 0, none⟩) 0 _ HT3.out HH3.out (fun _ _ => rfl) HG3.out HP3.out HOK.out HX3.out).mono ?_
  rintro e w4 ⟨rfl, B⟩
  clear vE0 vR0 vR1 vR2 vR3 vR4 vR5 vR6
  have HB4 := Lib.hid (HB3.out.trans (B.mono HB3.out.size))
  have FT_4 := Lib.hid (HT3.out.below B (Nat.le_refl _))
  have FR_4 := Lib.hid (HR3.out.below B (Nat.le_refl _))
  have FE_4 := Lib.hid (HE3.out.below B (Nat.le_refl _))
  have FO_4 := Lib.hid (HO3.out.below B (Nat.le_refl _))
  have FP_4 := Lib.hid (HP3.out.below B (Nat.le_refl _))
  have FX_4 := Lib.hid (HX3.out.below B (Nat.le_refl _))
  have FH_4 := Lib.hid (HH3.out.below B (Nat.le_refl _))
  have FG_4 := Lib.hid (HG3.out.below B (Nat.le_refl _))
  clear B  HB3 HT3 HR3 HE3 HO3 HP3 HX3 HH3 HG3
  rw [vR_putQ, lR_putQ]
  have e0 := FE_4.out.cell 0 (v := .int .i64 0) rfl; have ez := FE_4.out.free 0
  have d0 := (FE_4.out.alloc (.cells #[.int .i64 (fenA (allB (vR v Q F G) n) (memR d (lR v Q F G (f 0) (g 0)) n)), .int .i64 0, .slice none 0 0] 102)).cell 0 (v := .int .i64 0) rfl; have dz := (FE_4.out.alloc (.cells #[.int .i64 (fenA (allB (vR v Q F G) n) (memR d (lR v Q F G (f 0) (g 0)) n)), .int .i64 0, .slice none 0 0] 102)).free 0
  go_upto_region 7 with (fail)
  clear e0 ez d0 dz
  have HR5 := Lib.hid (show Bx ((w4.alloc (.cells #[.int .i64 (fenA (allB (vR v Q F G) n) (memR d (lR v Q F G (f 0) (g 0)) n)), .int .i64 0, .slice none 0 0] 102)).setCell ⟨w.heap.size + 1, 0, none⟩ (.int .i64 0)) rb #[.int .i64 4, .int .i64 0, .slice (some ⟨g1, 0, none⟩) n hc, .int .i64 0, .slice (some ⟨r, 0, none⟩) n rc, .slice (some ⟨pb, 0, none⟩) 1 1, .slice (some ⟨qb, 0, none⟩) 0 0] 99 from (FR_4.out.alloc _).other _ (bx_ne FR_4.out FE_4.out (by decide)))
  have HA5 := Lib.hid (show Bx ((w4.alloc (.cells #[.int .i64 (fenA (allB (vR v Q F G) n) (memR d (lR v Q F G (f 0) (g 0)) n)), .int .i64 0, .slice none 0 0] 102)).setCell ⟨w.heap.size + 1, 0, none⟩ (.int .i64 0)) w4.heap.size #[.int .i64 (fenA (allB (vR v Q F G) n) (memR d (lR v Q F G (f 0) (g 0)) n)), .int .i64 0, .slice none 0 0] 102 from (Bx.new _ _ _).other _ (by have := FE_4.out.lt; show w4.heap.size ≠ w.heap.size + 1; omega))
  have HE5 := Lib.hid (show Bx ((w4.alloc (.cells #[.int .i64 (fenA (allB (vR v Q F G) n) (memR d (lR v Q F G (f 0) (g 0)) n)), .int .i64 0, .slice none 0 0] 102)).setCell ⟨w.heap.size + 1, 0, none⟩ (.int .i64 0)) (w.heap.size + 1) #[.int .i64 0] 67 from (FE_4.out.alloc _).set 0 _)
  have HO5 := Lib.hid (show Bx ((w4.alloc (.cells #[.int .i64 (fenA (allB (vR v Q F G) n) (memR d (lR v Q F G (f 0) (g 0)) n)), .int .i64 0, .slice none 0 0] 102)).setCell ⟨w.heap.size + 1, 0, none⟩ (.int .i64 0)) w.heap.size #[.slice none 0 0] 24 from (FO_4.out.alloc _).other _ (by show w.heap.size ≠ w.heap.size + 1; omega))
  have HH5 := Lib.hid (show Rgs ((w4.alloc (.cells #[.int .i64 (fenA (allB (vR v Q F G) n) (memR d (lR v Q F G (f 0) (g 0)) n)), .int .i64 0, .slice none 0 0] 102)).setCell ⟨w.heap.size + 1, 0, none⟩ (.int .i64 0)) (some ⟨g1, 0, none⟩) n hc d v Q0 from (FH_4.out.alloc _).setFar (rgs_ne FH_4.out HPOS.out FE_4.out))
  have HB5 := Lib.hid (show Below w.heap.size w ((w4.alloc (.cells #[.int .i64 (fenA (allB (vR v Q F G) n) (memR d (lR v Q F G (f 0) (g 0)) n)), .int .i64 0, .slice none 0 0] 102)).setCell ⟨w.heap.size + 1, 0, none⟩ (.int .i64 0)) from (HB4.out.alloc HB4.out.size _).setCell (p := ⟨w.heap.size + 1, 0, none⟩) (by show w.heap.size ≤ w.heap.size + 1; omega) _)
  generalize ((w4.alloc (.cells #[.int .i64 (fenA (allB (vR v Q F G) n) (memR d (lR v Q F G (f 0) (g 0)) n)), .int .i64 0, .slice none 0 0] 102)).setCell ⟨w.heap.size + 1, 0, none⟩ (.int .i64 0)) = w5 at *
  generalize w4.heap.size = ab at *
  clear FE_4 FO_4 FP_4 FX_4 FH_4 FG_4 HB4 FT_4 FR_4
  have vE0 := HE5.out.cell 0 (v := .int .i64 0) rfl
  have vR0 := HR5.out.cell 0 (v := .int .i64 4) rfl
  have vR1 := HR5.out.cell 1 (v := .int .i64 0) rfl
  have vR2 := HR5.out.cell 2 (v := .slice (some ⟨g1, 0, none⟩) n hc) rfl
  have vR3 := HR5.out.cell 3 (v := .int .i64 0) rfl
  have vR4 := HR5.out.cell 4 (v := .slice (some ⟨r, 0, none⟩) n rc) rfl
  have vR5 := HR5.out.cell 5 (v := .slice (some ⟨pb, 0, none⟩) 1 1) rfl
  have vR6 := HR5.out.cell 6 (v := .slice (some ⟨qb, 0, none⟩) 0 0) rfl
  have vA0 := HA5.out.cell 0 (v := .int .i64 (fenA (allB (vR v Q F G) n) (memR d (lR v Q F G (f 0) (g 0)) n))) rfl
  have vA1 := HA5.out.cell 1 (v := .int .i64 0) rfl
  have vA2 := HA5.out.cell 2 (v := .slice none 0 0) rfl
  go_wp2_with fail
  refine (codec_Respond4 (some ⟨g1, 0, none⟩) hc n d v Q0 _ (fenA_range _ _) _ HH5.out (fun _ _ => rfl) HO.out.toOkK).mono ?_
  rintro e w6 ⟨⟨A', c', rfl, hby⟩, B⟩
  clear vE0 vR0 vR1 vR2 vR3 vR4 vR5 vR6 vA0 vA1 vA2
  have HB6 := Lib.hid (HB5.out.trans (B.mono HB5.out.size))
  have FR_6 := Lib.hid (HR5.out.below B (Nat.le_refl _))
  have FA_6 := Lib.hid (HA5.out.below B (Nat.le_refl _))
  have FE_6 := Lib.hid (HE5.out.below B (Nat.le_refl _))
  have FO_6 := Lib.hid (HO5.out.below B (Nat.le_refl _))
  have FH_6 := Lib.hid (HH5.out.below B (Nat.le_refl _))
  have FY_6 := Lib.hid hby
  clear B hby HB5 HR5 HA5 HE5 HO5 HH5
  have e0 := FE_6.out.cell 0 (v := .int .i64 0) rfl; have ez := FE_6.out.free 0; have o0 := FO_6.out.cell 0 (v := .slice none 0 0) rfl; have oz := FO_6.out.free 0
  go_wp2_with fail
  clear e0 ez o0 oz
  have hne : w.heap.size ≠ w.heap.size + 1 := by omega
  have HO6 := Lib.hid (FO_6.out.set 0 (.slice A' 2 c'))
  have HE6 := Lib.hid (FE_6.out.other (a := ⟨w.heap.size, 0, none⟩) (.slice A' 2 c') (by show w.heap.size + 1 ≠ w.heap.size; omega))
  have HY6 := Lib.hid (by_keep FY_6.out FO_6.out (by simp) (gr_set _ _ 0 (.slice A' 2 c')))
  have HO7 := Lib.hid (HO6.out.other (a := ⟨w.heap.size + 1, 0, none⟩) (.int .i64 0) hne)
  have HE7 := Lib.hid (HE6.out.set 0 (.int .i64 0))
  have HY7 := Lib.hid (by_keep HY6.out HE6.out (by simp) (gr_set _ _ 0 (.int .i64 0)))
  have HO8 := Lib.hid (HO7.out.set 0 (.slice A' 2 c'))
  have HE8 := Lib.hid (HE7.out.other (a := ⟨w.heap.size, 0, none⟩) (.slice A' 2 c') (by show w.heap.size + 1 ≠ w.heap.size; omega))
  have HY8 := Lib.hid (by_keep HY7.out HO7.out (by simp) (gr_set _ _ 0 (.slice A' 2 c')))
  have HB8 := Lib.hid (((HB6.out.setCell (p := ⟨w.heap.size, 0, none⟩) (Nat.le_refl _) (.slice A' 2 c')).setCell (p := ⟨w.heap.size + 1, 0, none⟩) (by show w.heap.size ≤ w.heap.size + 1; omega) (.int .i64 0)).setCell (p := ⟨w.heap.size, 0, none⟩) (Nat.le_refl _) (.slice A' 2 c'))
  generalize (((w6.setCell ⟨w.heap.size, 0, none⟩ (.slice A' 2 c')).setCell ⟨w.heap.size + 1, 0, none⟩ (.int .i64 0)).setCell ⟨w.heap.size, 0, none⟩ (.slice A' 2 c')) = w8 at *
  refine leaves_cons (f := 53) (args := #[.pointer (some ⟨w.heap.size + 1, 0, none⟩), .pointer (some ⟨w.heap.size, 0, none⟩)]) (by simp) (by simp [go_sem]) ?_
  refine (traced_idle _ _ _ (HE8.out.cell 0 rfl) _).mono ?_
  rintro e u' w'' ⟨rfl, rfl, rfl⟩
  have q := HO8.out.cell 0 (v := .slice A' 2 c') rfl
  exact ⟨.slice A' 2 c', by simp [results, Tryz.results30, go_sem, q], ⟨A', c', rfl, HY8.out⟩, HB8.out⟩
set_option maxHeartbeats 4000000 in
set_option maxRecDepth 100000 in
theorem serve_Serve4 (n : Nat) (d : Nat → Bool) (v : Nat → Int) (Q : Nat → Option Addr × Nat × Nat) (F G : Nat → Nat → Int) (ho : OkR n v Q) (hi : ∀ i, i < n → ∀ j, j < (Q i).2.1 → IsI (F i j) ∧ IsI (G i j)) (f g : Nat → Int) (hfg : ∀ i, i < 1 → IsI (f i) ∧ IsI (g i)) (A : Option Addr) (N c : Nat) (w : World) (hT : TabM w) (hF : TabF w) (hN : (hdrB 4 n d v 0 ++ (rgsB Q F G n ++ ptsB f g 1)).length = N) (hb : By w A c (hdrB 4 n d v 0 ++ (rgsB Q F G n ++ ptsB f g 1))) :
    Calls Tryz.prog 11 #[.slice A N c] w fun e w' => (∃ A' c', e = .returned (.slice A' 2 c') ∧ By w' A' c' [0, fenA (allB (vR v Q F G) n) (memR d (lR v Q F G (f 0) (g 0)) n)]) ∧ Below w.heap.size w w' := by
  have HC := Lib.hid (serve_Traced4 n d v Q F G ho hi f g hfg A N c w hT hF hN hb); clear hT hF hi hb ho hfg hN
  go_enter Tryz.func11, Tryz.ntmps11
  go_wp2_with fail
  refine HC.out.mono ?_
  rintro e w' ⟨⟨A', c', rfl, hy⟩, B⟩
  have HY := Lib.hid hy; have HB := Lib.hid B; clear hy B
  go_wp2_with fail
  go_ret
  exact ⟨⟨A', c', rfl, HY.out⟩, HB.out⟩
end Go.Proofs.YtjdiilkljgljkaaGreatDoor
namespace Go.Proofs.YtjdiilkljgljkaaGreatDoor
set_option linter.unusedVariables false
set_option linter.unusedSimpArgs false
open Go.RowKit Wd

set_option maxHeartbeats 4000000 in
set_option maxRecDepth 100000 in
theorem top_public (A : Option Addr) (n c : Nat) (d : Nat → Bool) (v : Nat → Int) (Q : Nat → Option Addr × Nat × Nat) (ho : OkK n v) (w : World) (hr : Rgs w A n c d v Q) :
    Calls Tryz.prog 20 #[.slice A n c] w fun e w' => (∃ g rc, e = .returned (.slice (some ⟨g, 0, none⟩) n rc) ∧ Rgs w' (some ⟨g, 0, none⟩) n rc d v Q0) ∧ Below w.heap.size w w' := by
  obtain ⟨i0, hi0, hz0, hz1, hz2⟩ := info_parts infoRg
  have HR := Lib.hid hr
  have HO := Lib.hid ho
  have hcp := hr.cap
  have hmx := hr.max
  have h1 := ho.pos
  have h2 := ho.le
  clear hr ho
  unfold maxLen at hmx
  obtain ⟨b, off, rfl, hbl, hc⟩ := HR.out.at_ (by omega)
  have HC := Lib.hid hc; have HBL := Lib.hid hbl; clear hc hbl
  go_enter Tryz.func20, Tryz.ntmps20
  go_wp2_with fail
  go_loopw [3, 8] (fun xr ir wr => ∃ k : Nat, k ≤ n ∧ ir = .int .i64 (k : Int) ∧ OwR wr w.heap.size xr k d v Q0 ∧ Below w.heap.size w wr) (fun _ i _ => n - (intOf i).toNat)
  case atStart => exact ⟨0, by omega, rfl, OwR.nil _ _ _ _ _, below_rf⟩
  case round =>
    obtain ⟨k, hk, rfl, how, hb⟩ := hrel
    have HB := Lib.hid hb; have HOW := Lib.hid how; clear hb how
    by_cases hlt : k < n
    · have p0 : wr.cell? ⟨b, off + k * 3, none⟩ = some (.bool (d k)) := (HB.out.cell (p := ⟨b, off + k * 3, none⟩) HBL.out).trans (HC.out k hlt).1
      have p1 : wr.cell? ⟨b, off + k * 3 + 1, none⟩ = some (.int .i64 (v k)) := (HB.out.cell (p := ⟨b, off + k * 3 + 1, none⟩) HBL.out).trans (HC.out k hlt).2.1
      have p2 : wr.cell? ⟨b, off + k * 3 + 2, none⟩ = some (.slice (Q k).1 (Q k).2.1 (Q k).2.2) := (HB.out.cell (p := ⟨b, off + k * 3 + 2, none⟩) HBL.out).trans (HC.out k hlt).2.2
      have hms := Lib.hid (show n - (intOf (.int .i64 ((k : Int) + 1))).toNat < n - (intOf (.int .i64 (k : Int))).toNat from by simp [intOf]; omega)
      have hsz := HB.out.size
      have OW := Lib.hid ((HOW.out.alloc (.cells #[.bool (d k), .int .i64 (v k), .slice (Q k).1 (Q k).2.1 (Q k).2.2] 48)).alloc (.cells #[.bool (d k), .int .i64 (v k), .slice none 0 0] 48))
      go_wp2_with (at_builtin; refine wpList_append_own _ rfl _ _ 26 rfl w.heap.size 48 i0 (.agg #[.bool false, .int .i64 0, .slice none 0 0]) 3 40 Tryz.underlying26 hi0 hz0 hz1 hz2 rfl (by decide) _ _ _ rfl OW.out ⟨wr.heap.size + 1, 0, none⟩ 1 1 [.bool (d k), .int .i64 (v k), .slice none 0 0] rfl rfl ?c1 ?c2 ?c3 ?c4 ?c5 ?_)
      case c1 => exact cells_three_at (by simp) _ _ _ _
      case c2 => simp [Value.oneCell']
      case c3 => unfold maxLen; omega
      case c4 => omega
      case c5 => (simp; omega)
      intro v' w' hown2 hgrow _
      have HB9 := Lib.hid (show Below w.heap.size w w' from below_grownR ((HB.out.alloc hsz (.cells #[.bool (d k), .int .i64 (v k), .slice (Q k).1 (Q k).2.1 (Q k).2.2] 48)).alloc (Nat.le_trans hsz (by simp)) (.cells #[.bool (d k), .int .i64 (v k), .slice none 0 0] 48)) (Nat.le_trans hsz (by simp; omega)) (Nat.le_refl _) hgrow OW.out)
      have HO9 := Lib.hid (show OwR w' w.heap.size v' (k + 1) d v Q0 from OwR.snoc hown2 rfl)
      clear hown2 hgrow p0 p1 p2 hsz OW HB HOW
      go_wp2_with fail
      go_roundw
      case rel => exact ⟨k + 1, hlt, by go_num, HO9.out, HB9.out⟩
      case measure => exact hms.out
    · obtain rfl : k = n := by omega
      obtain ⟨g, rc, rfl, hg, hrg, -⟩ := HOW.out.rgs (by omega) (fun i hi => by have := HO.out.range hi; unfold IsI; omega)
      have HRG := Lib.hid hrg; clear hg hrg
      go_wp2_with fail
      go_ret
      exact ⟨⟨g, rc, rfl, HRG.out⟩, HB.out⟩
set_option maxHeartbeats 4000000 in
set_option maxRecDepth 100000 in
theorem law16_Large (A : Option Addr) (n c : Nat) (d : Nat → Bool) (v : Nat → Int) (Q : Nat → Option Addr × Nat × Nat) (w : World) (hr : Rgs w A n c d v Q) :
    Calls Tryz.prog 36 #[.slice A n c] w fun e w' => (∃ x : Int, e = .returned (.int .i64 x)) ∧ Below w.heap.size w w' := by
  have HR := Lib.hid hr
  have hcp := hr.cap
  have hmx := hr.max
  clear hr
  unfold maxLen at hmx
  go_enter Tryz.func36, Tryz.ntmps36
  go_wp2_with fail
  go_loopw [3, 8] (fun mr ir wr => ∃ (k : Nat) (s : Int), k ≤ n ∧ mr = .int .i64 s ∧ ir = .int .i64 (k : Int) ∧ Below w.heap.size w wr) (fun _ i _ => n - (intOf i).toNat)
  case atStart => exact ⟨0, 0, by omega, rfl, rfl, below_rf⟩
  case round =>
    obtain ⟨k, s, hk, rfl, rfl, hb⟩ := hrel
    have HB := Lib.hid hb; clear hb
    by_cases hlt : k < n
    · obtain ⟨b, off, rfl, hbl, hc⟩ := HR.out.at_ (by omega)
      have p0 : wr.cell? ⟨b, off + k * 3, none⟩ = some (.bool (d k)) := (HB.out.cell (p := ⟨b, off + k * 3, none⟩) hbl).trans (hc k hlt).1
      have p1 : wr.cell? ⟨b, off + k * 3 + 1, none⟩ = some (.int .i64 (v k)) := (HB.out.cell (p := ⟨b, off + k * 3 + 1, none⟩) hbl).trans (hc k hlt).2.1
      have p2 : wr.cell? ⟨b, off + k * 3 + 2, none⟩ = some (.slice (Q k).1 (Q k).2.1 (Q k).2.2) := (HB.out.cell (p := ⟨b, off + k * 3 + 2, none⟩) hbl).trans (hc k hlt).2.2
      clear hc hbl
      have hms := Lib.hid (show n - (intOf (.int .i64 ((k : Int) + 1))).toNat < n - (intOf (.int .i64 (k : Int))).toNat from by simp [intOf]; omega)
      have HB9 := Lib.hid (show Below w.heap.size w (wr.alloc (.cells #[.bool (d k), .int .i64 (v k), .slice (Q k).1 (Q k).2.1 (Q k).2.2] 48)) from HB.out.alloc HB.out.size _)
      go_wp2_with fail
      all_goals first
        | (go_ret; exact ⟨⟨_, rfl⟩, HB9.out⟩)
        | (go_roundw
           case rel => exact ⟨k + 1, _, hlt, rfl, by go_num, HB9.out⟩
           case measure => exact hms.out)
    · obtain rfl : k = n := by omega
      go_wp2_with fail
      go_ret
      exact ⟨⟨_, rfl⟩, HB.out⟩
end Go.Proofs.YtjdiilkljgljkaaGreatDoor
namespace Go.Proofs.YtjdiilkljgljkaaGreatDoor
set_option linter.unusedVariables false
set_option linter.unusedSimpArgs false
open Go.RowKit Wd


set_option maxHeartbeats 4000000 in
set_option maxRecDepth 100000 in
theorem ref17_Format4 (A : Option Addr) (n c : Nat) (d : Nat → Bool) (v : Nat → Int) (Q : Nat → Option Addr × Nat × Nat) (ho : OkK n v) (hq : ∀ k, k < n → (Q k).2.1 = 0) (w : World) (hr : Rgs w A n c d v Q) :
    Calls Tryz.prog 43 #[.agg #[.int .i64 4, .int .i64 0, .slice A n c, .int .i64 0]] w fun e w' => (∃ v', e = .returned (.tuple #[v', .int .i64 0]) ∧ OwB w' w.heap.size v' (hdrB 4 n d v 0)) ∧ Below w.heap.size w w' := by
  obtain ⟨i0, hi0, hz0, hz1, hz2⟩ := info_parts infoB
  have HR := Lib.hid hr; have HO := Lib.hid ho; have HQ := Lib.hid hq
  have hcp := hr.cap
  have hmx := hr.max
  have h1 := ho.pos
  have h2 := ho.le
  clear hr ho hq
  unfold maxLen at hmx
  obtain ⟨b, off, rfl, hbl, hc⟩ := HR.out.at_ (by omega)
  have HC := Lib.hid hc; have HBL := Lib.hid hbl; clear hc hbl
  go_enter Tryz.func43, Tryz.ntmps43
  go_wp2_with fail
  have HX := Lib.hid (Bx.new w #[.int .i64 4, .int .i64 0, .slice (some ⟨b, off, none⟩) n c, .int .i64 0] 28)
  have HB1 := Lib.hid (show Below w.heap.size w (w.alloc (.cells #[.int .i64 4, .int .i64 0, .slice (some ⟨b, off, none⟩) n c, .int .i64 0] 28)) from below_al below_rf)
  generalize w.alloc (.cells #[.int .i64 4, .int .i64 0, .slice (some ⟨b, off, none⟩) n c, .int .i64 0] 28) = w1 at *
  have c0 := HX.out.cell 0 (v := .int .i64 4) rfl
  have c1 := HX.out.cell 1 (v := .int .i64 0) rfl
  have c2 := HX.out.cell 2 (v := .slice (some ⟨b, off, none⟩) n c) rfl
  have c3 := HX.out.cell 3 (v := .int .i64 0) rfl
  go_wp2_with fail
  clear c0 c1 c2 c3
  go_loopw [4] (fun ir wr => ∃ k : Nat, k ≤ n ∧ ir = .int .i64 (k : Int) ∧ Below w1.heap.size w1 wr) (fun i _ => n - (intOf i).toNat)
  case atStart => exact ⟨0, by omega, rfl, below_rf⟩
  case round =>
    obtain ⟨k, hk, rfl, hb_⟩ := hrel
    have HBR := Lib.hid hb_; clear hb_
    have HXR := Lib.hid (HX.out.below HBR.out (Nat.le_refl _))
    have HB := Lib.hid (HB1.out.trans (HBR.out.mono HB1.out.size))
    by_cases hlt : k < n
    · have p0 : wr.cell? ⟨b, off + k * 3, none⟩ = some (.bool (d k)) := (HB.out.cell (p := ⟨b, off + k * 3, none⟩) HBL.out).trans (HC.out k hlt).1
      have p1 : wr.cell? ⟨b, off + k * 3 + 1, none⟩ = some (.int .i64 (v k)) := (HB.out.cell (p := ⟨b, off + k * 3 + 1, none⟩) HBL.out).trans (HC.out k hlt).2.1
      have p2 : wr.cell? ⟨b, off + k * 3 + 2, none⟩ = some (.slice (Q k).1 (Q k).2.1 (Q k).2.2) := (HB.out.cell (p := ⟨b, off + k * 3 + 2, none⟩) HBL.out).trans (HC.out k hlt).2.2
      have hms := Lib.hid (show n - (intOf (.int .i64 ((k : Int) + 1))).toNat < n - (intOf (.int .i64 (k : Int))).toNat from by simp [intOf]; omega)
      have hz := HO.out.kind k hlt
      have c2 := HXR.out.cell 2 (v := .slice (some ⟨b, off, none⟩) n c) rfl
      go_wp2_with fail
      clear p0 p1 p2 c2
      refine (ref16_Size (v k) _).mono ?_
      rintro e w5 ⟨rfl, rfl⟩
      go_wp2_with fail
      go_roundw
      case rel => exact ⟨k + 1, hlt, by go_num, HBR.out⟩
      case measure => exact hms.out
    · obtain rfl : k = n := by omega
      have c0 := HXR.out.cell 0 (v := .int .i64 4) rfl
      have c1 := HXR.out.cell 1 (v := .int .i64 0) rfl
      have c2 := HXR.out.cell 2 (v := .slice (some ⟨b, off, none⟩) k c) rfl
      have c3 := HXR.out.cell 3 (v := .int .i64 0) rfl
      have hxlt := HXR.out.lt
      have hsz := HB.out.size
      have en := wrap_u8_le (x := (k : Int)) (by omega) (by omega)
      have HO1 := Lib.hid (show OwB (wr.alloc (.cells #[.int .u8 4] 5)) w.heap.size (.slice (some ⟨wr.heap.size, 0, none⟩) 1 1) [4] from ⟨rfl, .inr ⟨wr.heap.size, 1, #[.int .u8 4], rfl, hsz, Bx.new _ _ _, Nat.le_refl _, by decide, rfl, rfl⟩⟩)
      go_wp2_with (at_builtin; refine wpList_append_own _ rfl _ _ 24 rfl w.heap.size 5 i0 (.int .u8 0) 1 1 Tryz.underlying24 hi0 hz0 hz1 hz2 rfl (by decide) _ _ _ rfl (HO1.out.alloc _) ⟨wr.heap.size + 1, 0, none⟩ 1 1 [.int .u8 (k : Int)] rfl rfl ?c1 ?c2 ?c3 ?c4 ?c5 ?_)
      case c1 => exact cells_one_at (by simp) _ _
      case c2 => simp [Value.oneCell']
      case c3 => skip; first | decide | (unfold maxLen; omega)
      case c4 => skip; first | decide | omega
      case c5 => first | (simp; done) | (simp; omega)
      intro v' w' hown2 hgrow _
      have HF3 := Lib.hid ((((Fr.refl w.heap.size none wr).alloc hsz (.cells #[.int .u8 4] 5)).alloc (Nat.le_trans hsz (by simp)) (.cells #[.int .u8 (k : Int)] 5)).grown hgrow (HO1.out.alloc _) (Nat.le_trans hsz (by simp; omega)))
      have HO3 := Lib.hid (show OwB w' w.heap.size v' (4 :: (k : Int) :: codL d v 0) from OwB.snoc (l := [4]) hown2 rfl)
      clear hown2 hgrow HO1 c0 c1 c2 c3 en hxlt hsz
      have HX3 := Lib.hid (HF3.out.keep _ _ _ (by decide) (by simp) HXR.out)
      have c0 := HX3.out.cell 0 (v := .int .i64 4) rfl
      have c1 := HX3.out.cell 1 (v := .int .i64 0) rfl
      have c2 := HX3.out.cell 2 (v := .slice (some ⟨b, off, none⟩) k c) rfl
      have c3 := HX3.out.cell 3 (v := .int .i64 0) rfl
      go_wp2_with fail
      clear c0 c1 c2 c3
      generalize wr = wq at *
      go_loopw [5, 6] (fun vr ir wx => ∃ j : Nat, j ≤ k ∧ ir = .int .i64 (j : Int) ∧ OwB wx w.heap.size vr (4 :: (k : Int) :: codL d v j) ∧ Fr w.heap.size none wq wx) (fun _ i _ => k - (intOf i).toNat)
      case atStart => exact ⟨0, by omega, rfl, HO3.out, HF3.out⟩
      case round =>
        obtain ⟨j, hj, rfl, hown, hfr⟩ := hrel
        have HOW := Lib.hid hown; have HFR := Lib.hid hfr; clear hown hfr
        have HBJ := Lib.hid (HB.out.trans HFR.out.below)
        have HXJ := Lib.hid (HFR.out.keep _ _ _ (by decide) (by simp) HXR.out)
        have hsz := HBJ.out.size
        have hxlt := HXJ.out.lt
        by_cases hlt : j < k
        · have p0 : wr.cell? ⟨b, off + j * 3, none⟩ = some (.bool (d j)) := (HBJ.out.cell (p := ⟨b, off + j * 3, none⟩) HBL.out).trans (HC.out j hlt).1
          have p1 : wr.cell? ⟨b, off + j * 3 + 1, none⟩ = some (.int .i64 (v j)) := (HBJ.out.cell (p := ⟨b, off + j * 3 + 1, none⟩) HBL.out).trans (HC.out j hlt).2.1
          have p2 : wr.cell? ⟨b, off + j * 3 + 2, none⟩ = some (.slice (Q j).1 (Q j).2.1 (Q j).2.2) := (HBJ.out.cell (p := ⟨b, off + j * 3 + 2, none⟩) HBL.out).trans (HC.out j hlt).2.2
          have hq0 := HQ.out j hlt
          rw [hq0] at p2
          clear hq0
          have hms := Lib.hid (show k - (intOf (.int .i64 ((j : Int) + 1))).toNat < k - (intOf (.int .i64 (j : Int))).toNat from by simp [intOf]; omega)
          have HRG := Lib.hid (HO.out.range hlt)
          have c2 := HXJ.out.cell 2 (v := .slice (some ⟨b, off, none⟩) k c) rfl
          have e1 := wrap_u8_le (x := v j) HRG.out.1 (by have := HRG.out.2.1; omega)
          have e2 : IntKind.i64.wrap (v j + 128) = v j + 128 := by have := HRG.out; rw [IntKind.wrap_i64]; omega
          have e3 := wrap_u8_le (x := v j + 128) (by have := HRG.out.1; omega) (by have := HRG.out.2.1; omega)
          have HLN := Lib.hid (show (4 :: (k : Int) :: codL d v j).length = j + 2 from by simp [codL_len])
          cases hd : d j
          · have HCB := Lib.hid (show codB d v j = v j from by unfold codB; rw [hd]; rfl)
            rw [hd] at p0
            clear hd
            go_wp2_with (at_builtin; refine wpList_append_own _ rfl _ _ 24 rfl w.heap.size 5 i0 (.int .u8 0) 1 1 Tryz.underlying24 hi0 hz0 hz1 hz2 rfl (by decide) _ _ _ rfl (HOW.out.alloc (.cells #[.int .u8 (v j)] 5)) ⟨wr.heap.size, 0, none⟩ 1 1 [.int .u8 (v j)] rfl rfl ?c1 ?c2 ?c3 ?c4 ?c5 ?_)
            case c1 => exact cells_one_at (by simp) _ _
            case c2 => simp [Value.oneCell']
            case c3 => have := HLN.out; first | decide | (unfold maxLen; omega)
            case c4 => have := HLN.out; first | decide | omega
            case c5 => (simp; omega)
            intro v' w' hown2 hgrow _
            have HF9 := Lib.hid ((HFR.out.alloc hsz (.cells #[.int .u8 (v j)] 5)).grown hgrow (HOW.out.alloc (.cells #[.int .u8 (v j)] 5)) (Nat.le_trans hsz (by simp)))
            have HO9 := Lib.hid (show OwB w' w.heap.size v' (4 :: (k : Int) :: codL d v (j + 1)) from by
              have h := OwB.snoc (l := (4 :: (k : Int) :: codL d v j)) hown2 rfl
              rw [codL, HCB.out]; exact h)
            clear hown2 hgrow
            go_wp2_with fail
            go_roundw
            case rel => exact ⟨j + 1, hlt, by go_num, HO9.out, HF9.out⟩
            case measure => exact hms.out
          · have HCB := Lib.hid (show codB d v j = v j + 128 from by unfold codB; rw [hd]; rfl)
            rw [hd] at p0
            clear hd
            go_wp2_with (at_builtin; refine wpList_append_own _ rfl _ _ 24 rfl w.heap.size 5 i0 (.int .u8 0) 1 1 Tryz.underlying24 hi0 hz0 hz1 hz2 rfl (by decide) _ _ _ rfl (HOW.out.alloc (.cells #[.int .u8 (v j + 128)] 5)) ⟨wr.heap.size, 0, none⟩ 1 1 [.int .u8 (v j + 128)] rfl rfl ?c1 ?c2 ?c3 ?c4 ?c5 ?_)
            case c1 => exact cells_one_at (by simp) _ _
            case c2 => simp [Value.oneCell']
            case c3 => have := HLN.out; first | decide | (unfold maxLen; omega)
            case c4 => have := HLN.out; first | decide | omega
            case c5 => (simp; omega)
            intro v' w' hown2 hgrow _
            have HF9 := Lib.hid ((HFR.out.alloc hsz (.cells #[.int .u8 (v j + 128)] 5)).grown hgrow (HOW.out.alloc (.cells #[.int .u8 (v j + 128)] 5)) (Nat.le_trans hsz (by simp)))
            have HO9 := Lib.hid (show OwB w' w.heap.size v' (4 :: (k : Int) :: codL d v (j + 1)) from by
              have h := OwB.snoc (l := (4 :: (k : Int) :: codL d v j)) hown2 rfl
              rw [codL, HCB.out]; exact h)
            clear hown2 hgrow
            go_wp2_with fail
            go_roundw
            case rel => exact ⟨j + 1, hlt, by go_num, HO9.out, HF9.out⟩
            case measure => exact hms.out
        · obtain rfl : j = k := by omega
          have c0 := HXJ.out.cell 0 (v := .int .i64 4) rfl
          have c1 := HXJ.out.cell 1 (v := .int .i64 0) rfl
          have c2 := HXJ.out.cell 2 (v := .slice (some ⟨b, off, none⟩) j c) rfl
          have c3 := HXJ.out.cell 3 (v := .int .i64 0) rfl
          go_wp2_with fail
          go_ret2
          exact ⟨⟨_, rfl, by have := HOW.out; unfold hdrB ptsN; simpa using this⟩, HBJ.out⟩
end Go.Proofs.YtjdiilkljgljkaaGreatDoor
