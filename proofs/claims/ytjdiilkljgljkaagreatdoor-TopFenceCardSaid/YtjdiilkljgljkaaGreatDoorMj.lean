/- The reference's membership, and its answer to a fence request. slices.ContainsFunc on regions: no element meets the condition. The payload's length at requests with regions. The header's bytes at requests with regions. Rows of regions of a call's own: they grow by append; read as slices of regions. Plain facts; no program's run. The parse of a header with regions. The check of a request's length, with regions. The numbers of points and queries at requests with regions. The codec's Encode at a fence request. -/
import Derived.Test.YtjdiilkljgljkaaGreatDoorMi
import Derived.Test.YtjdiilkljgljkaaGreatDoorMe
import Derived.Test.YtjdiilkljgljkaaGreatDoorMb
namespace Go.Proofs.YtjdiilkljgljkaaGreatDoor
set_option linter.unusedVariables false
set_option linter.unusedSimpArgs false
open Go.RowKit Wd


set_option maxHeartbeats 4000000 in
set_option maxRecDepth 100000 in
theorem ref16_Member (A : Option Addr) (n c : Nat) (d : Nat → Bool) (v : Nat → Int) (Q : Nat → Option Addr × Nat × Nat) (F G : Nat → Nat → Int) (x y : Int) (hx : IsI x) (hy : IsI y) (w : World) (hr : Rgs w A n c d v Q) (hp : RgP w n Q F G) (ho : OkR n v Q) :
    Calls Tryz.prog 39 #[.slice A n c, .agg #[.int .i64 x, .int .i64 y]] w fun e w' => e = .returned (.bool (memR d (lR v Q F G x y) n)) ∧ Below w.heap.size w w' := by
  have HR := Lib.hid hr
  have HP := Lib.hid hp
  have HO := Lib.hid ho
  have HX := Lib.hid hx
  have HY := Lib.hid hy
  have hcp := hr.cap
  have hmx := hr.max
  have h1 := ho.pos
  have h2 := ho.le
  clear hr ho hp hx hy
  unfold maxLen at hmx
  obtain ⟨b, off, rfl, hbl, hc⟩ := HR.out.at_ (by omega)
  have HC := Lib.hid hc; have HBL := Lib.hid hbl; clear hc hbl
  go_enter Tryz.func39, Tryz.ntmps39
  go_wp2_with fail
  have HB1 := Lib.hid (show Below w.heap.size w (w.alloc (.cells #[.int .i64 x, .int .i64 y] 23)) from below_al below_rf)
  have FP := Lib.hid (Bx.new w #[.int .i64 x, .int .i64 y] 23)
  generalize w.alloc (.cells #[.int .i64 x, .int .i64 y] 23) = w1 at *
  refine (ref16_Check _ n c d v Q _ (HR.out.below HB1.out (Nat.le_refl _))).mono ?_
  rintro e w2 ⟨⟨z, rfl, hz⟩, B⟩
  obtain rfl : z = 0 := hz.2 HO.out
  have FP2 := Lib.hid (FP.out.below B (Nat.le_refl _))
  have HB2 := Lib.hid (HB1.out.trans (B.mono HB1.out.size)); clear B HB1 FP hz
  go_wp2_with fail
  go_loopw [5, 6] (fun mr ir wr => ∃ k : Nat, k ≤ n ∧ mr = .bool (alR d (lR v Q F G x y) k) ∧ ir = .int .i64 (k : Int) ∧ deR d (lR v Q F G x y) k = false ∧ Bx wr w.heap.size #[.int .i64 x, .int .i64 y] 23 ∧ Below w.heap.size w wr) (fun _ i _ => n - (intOf i).toNat)
  case atStart => exact ⟨0, by omega, rfl, rfl, rfl, FP2.out, HB2.out⟩
  case round =>
    obtain ⟨k, hk, rfl, rfl, hde, hpt, hb⟩ := hrel
    have HB1 := Lib.hid hb; have FP := Lib.hid hpt; have HDE := Lib.hid hde; clear hb hpt hde
    by_cases hlt : k < n
    · have FA := Lib.hid (HC.out k hlt)
      have FQ := Lib.hid ((HP.out.pts k hlt).below HB1.out (Nat.le_refl _))
      have HLB := Lib.hid (show lR v Q F G x y k = decide (locR (v k) (F k) (G k) (Q k).2.1 x y ≥ 0) from rfl)
      have hms := Lib.hid (show n - (intOf (.int .i64 ((k : Int) + 1))).toNat < n - (intOf (.int .i64 (k : Int))).toNat from by simp [intOf]; omega)
      have FC := Lib.hid (show wr.cell? ⟨b, off + k * 3, none⟩ = some (.bool (d k)) ∧ wr.cell? ⟨b, off + k * 3 + 1, none⟩ = some (.int .i64 (v k)) ∧ wr.cell? ⟨b, off + k * 3 + 2, none⟩ = some (.slice (Q k).1 (Q k).2.1 (Q k).2.2) from
        ⟨(HB1.out.cell (p := ⟨b, off + k * 3, none⟩) HBL.out).trans (HC.out k hlt).1, (HB1.out.cell (p := ⟨b, off + k * 3 + 1, none⟩) HBL.out).trans (HC.out k hlt).2.1, (HB1.out.cell (p := ⟨b, off + k * 3 + 2, none⟩) HBL.out).trans (HC.out k hlt).2.2⟩)
      have HWB := Lib.hid (show b < wr.heap.size from Nat.lt_of_lt_of_le HBL.out HB1.out.size)
      go_wp2_with fail
      refine (wpIn_wide (n := 0)).1 ?_
      refine wpIn_region_any (by kernel_rfl) ?_
      change wpAnyIn _ _ _ _ _ _ _ _ _ (World.drew _)
      have RB10 := Lib.hid (below_drew0 wr)
      refine wpAnyIn_tail WideF.wide (fun a b => Below a.heap.size a b) (fun _ => below_rf) (fun _ _ _ h k => below_tr h k) [⟨0, 16, fun z_ _ => z_ = .slice (some ⟨b, off, none⟩) n c⟩, ⟨1, 17, fun z_ _ => z_ = .int .i64 (k : Int)⟩, ⟨2, 18, fun z_ _ => z_ = .pointer (some ⟨b, off + k * 3, none⟩)⟩, ⟨3, 19, fun z_ _ => z_ = .agg #[.bool (d k), .int .i64 (v k), .slice (Q k).1 (Q k).2.1 (Q k).2.2]⟩, ⟨4, 20, fun z_ _ => z_ = .agg #[.int .i64 x, .int .i64 y]⟩, ⟨5, 21, fun z_ _ => z_ = .int .i64 (locR (v k) (F k) (G k) (Q k).2.1 x y)⟩, ⟨6, 22, fun z_ _ => z_ = .bool (lR v Q F G x y k)⟩] 7 (by kernel_rfl) ?_ ?_ ?_
      · refine ⟨?_, ?_, ?_, ?_, ?_, ?_, ?_, trivial⟩
        all_goals (intro x w w' hb h; first | exact h | (obtain ⟨b_, h1, h2⟩ := h; exact ⟨b_, h1, h2.below hb (Nat.le_refl _)⟩))
      · refine ⟨?_, ?_, ?_, ?_, ?_, ?_, ?_, trivial⟩
        · intro a wz K hb ht hd hK
          have hbw := Lib.hid (below_tr RB10.out hb); clear hb
          have hx0 := (ht 0 rfl).trans rfl
          have es0 : a.tmps.getD 0 undef = _ := getD_of hx0; clear hx0
          clear ht hd
          have HK := Lib.hid hK; clear hK
          refine wpOpP_step (by simp only [List.getElem?_toArray, List.getElem?_cons_succ, List.getElem?_cons_zero]; rfl) (fun K' hK' => ?_)
          have HK' := Lib.hid hK'; clear hK'
          go_simp
          exact HK'.out _ _ (HK.out _ _ below_rf rfl)
        · intro a wz K hb ht hd hK
          have hbw := Lib.hid (below_tr RB10.out hb); clear hb
          have hx6 := (ht 6 rfl).trans rfl
          have es6 : a.tmps.getD 6 undef = _ := getD_of hx6; clear hx6
          clear ht hd
          have HK := Lib.hid hK; clear hK
          refine wpOpP_step (by simp only [List.getElem?_toArray, List.getElem?_cons_succ, List.getElem?_cons_zero]; rfl) (fun K' hK' => ?_)
          have HK' := Lib.hid hK'; clear hK'
          go_simp
          exact HK'.out _ _ (HK.out _ _ below_rf rfl)
        · intro a wz K hb ht hd hK
          have hbw := Lib.hid (below_tr RB10.out hb); clear hb
          obtain ⟨x16, hx16, hp16⟩ := hd 0 _ rfl (by kernel_rfl)
          obtain rfl := hp16
          have es16 : a.tmps.getD 16 undef = _ := getD_of hx16; clear hx16
          obtain ⟨x17, hx17, hp17⟩ := hd 1 _ rfl (by kernel_rfl)
          obtain rfl := hp17
          have es17 : a.tmps.getD 17 undef = _ := getD_of hx17; clear hx17
          clear ht hd
          have HK := Lib.hid hK; clear hK
          refine wpOpP_step (by simp only [List.getElem?_toArray, List.getElem?_cons_succ, List.getElem?_cons_zero]; rfl) (fun K' hK' => ?_)
          have HK' := Lib.hid hK'; clear hK'
          go_simp
          exact HK'.out _ _ (HK.out _ _ below_rf rfl)
        · intro a wz K hb ht hd hK
          have hbw := Lib.hid (below_tr RB10.out hb); clear hb
          obtain ⟨x18, hx18, hp18⟩ := hd 2 _ rfl (by kernel_rfl)
          obtain rfl := hp18
          have es18 : a.tmps.getD 18 undef = _ := getD_of hx18; clear hx18
          clear ht hd
          have HK := Lib.hid hK; clear hK
          have zc0 := (hbw.out.cell (p := ⟨b, off + k * 3, none⟩) HWB.out).trans FC.out.1; have zc1 := (hbw.out.cell (p := ⟨b, off + k * 3 + 1, none⟩) HWB.out).trans FC.out.2.1; have zc2 := (hbw.out.cell (p := ⟨b, off + k * 3 + 2, none⟩) HWB.out).trans FC.out.2.2
          refine wpOpP_step (by simp only [List.getElem?_toArray, List.getElem?_cons_succ, List.getElem?_cons_zero]; rfl) (fun K' hK' => ?_)
          have HK' := Lib.hid hK'; clear hK'
          go_simp
          exact HK'.out _ _ (HK.out _ _ below_rf rfl)
        · intro a wz K hb ht hd hK
          have hbw := Lib.hid (below_tr RB10.out hb); clear hb
          have hx3 := (ht 3 rfl).trans rfl
          have es3 : a.tmps.getD 3 undef = _ := getD_of hx3; clear hx3
          clear ht hd
          have zc0 := (FP.out.below hbw.out (Nat.le_refl _)).cell 0 (v := .int .i64 x) rfl
          have zc1 := (FP.out.below hbw.out (Nat.le_refl _)).cell 1 (v := .int .i64 y) rfl
          have HK := Lib.hid hK; clear hK
          refine wpOpP_step (by simp only [List.getElem?_toArray, List.getElem?_cons_succ, List.getElem?_cons_zero]; rfl) (fun K' hK' => ?_)
          have HK' := Lib.hid hK'; clear hK'
          go_simp
          exact HK'.out _ _ (HK.out _ _ below_rf rfl)
        · intro a wz K hb ht hd hK
          have hbw := Lib.hid (below_tr RB10.out hb); clear hb
          obtain ⟨x19, hx19, hp19⟩ := hd 3 _ rfl (by kernel_rfl)
          obtain rfl := hp19
          have es19 : a.tmps.getD 19 undef = _ := getD_of hx19; clear hx19
          obtain ⟨x20, hx20, hp20⟩ := hd 4 _ rfl (by kernel_rfl)
          obtain rfl := hp20
          have es20 : a.tmps.getD 20 undef = _ := getD_of hx20; clear hx20
          clear ht hd
          have HK := Lib.hid hK; clear hK
          refine wpOpP_step (by simp only [List.getElem?_toArray, List.getElem?_cons_succ, List.getElem?_cons_zero]; rfl) (fun K' hK' => ?_)
          have HK' := Lib.hid hK'; clear hK'
          go_simp
          refine (ref16_locate (d k) (v k) _ _ _ (HO.out.num k hlt) (F k) (G k) x y HX.out HY.out _ (FQ.out.below hbw.out (Nat.le_refl _))).mono ?_
          rintro e w1 ⟨rfl, B⟩
          go_wp2_with fail
          exact HK'.out _ _ (HK.out _ _ B rfl)
        · intro a wz K hb ht hd hK
          have hbw := Lib.hid (below_tr RB10.out hb); clear hb
          obtain ⟨x21, hx21, hp21⟩ := hd 5 _ rfl (by kernel_rfl)
          obtain rfl := hp21
          have es21 : a.tmps.getD 21 undef = _ := getD_of hx21; clear hx21
          clear ht hd
          have HK := Lib.hid hK; clear hK
          refine wpOpP_step (by simp only [List.getElem?_toArray, List.getElem?_cons_succ, List.getElem?_cons_zero]; rfl) (fun K' hK' => ?_)
          have HK' := Lib.hid hK'; clear hK'
          go_simp
          exact HK'.out _ _ (HK.out _ _ below_rf (congrArg Value.bool HLB.out.symm))
      intro w11 X hb hv
      simp only [List.foldl_cons, List.foldl_nil, Act.put, List.setIfInBounds_toArray, List.set_cons_zero, List.set_cons_succ, List.toList_toArray, List.drop_succ_cons, List.drop_zero]
      obtain ⟨hv0, hv1, hv2, hv3, hv4, hv5, hv6, -⟩ := hv
      have hV0 : (fun z_ _ => z_ = .slice (some ⟨b, off, none⟩) n c) (X 16) w11 := hv0; clear hv0; have hv0 := hV0; clear hV0; generalize X 16 = X16 at *
      have hV1 : (fun z_ _ => z_ = .int .i64 (k : Int)) (X 17) w11 := hv1; clear hv1; have hv1 := hV1; clear hV1; generalize X 17 = X17 at *
      have hV2 : (fun z_ _ => z_ = .pointer (some ⟨b, off + k * 3, none⟩)) (X 18) w11 := hv2; clear hv2; have hv2 := hV2; clear hV2; generalize X 18 = X18 at *
      have hV3 : (fun z_ _ => z_ = .agg #[.bool (d k), .int .i64 (v k), .slice (Q k).1 (Q k).2.1 (Q k).2.2]) (X 19) w11 := hv3; clear hv3; have hv3 := hV3; clear hV3; generalize X 19 = X19 at *
      have hV4 : (fun z_ _ => z_ = .agg #[.int .i64 x, .int .i64 y]) (X 20) w11 := hv4; clear hv4; have hv4 := hV4; clear hV4; generalize X 20 = X20 at *
      have hV5 : (fun z_ _ => z_ = .int .i64 (locR (v k) (F k) (G k) (Q k).2.1 x y)) (X 21) w11 := hv5; clear hv5; have hv5 := hV5; clear hV5; generalize X 21 = X21 at *
      have hV6 : (fun z_ _ => z_ = .bool (lR v Q F G x y k)) (X 22) w11 := hv6; clear hv6; have hv6 := hV6; clear hV6; generalize X 22 = X22 at *
      obtain rfl := hv0
      obtain rfl := hv1
      obtain rfl := hv2
      obtain rfl := hv3
      obtain rfl := hv4
      obtain rfl := hv5
      obtain rfl := hv6
      have RC := Lib.hid (below_tr RB10.out hb); clear hb
      have FQ_11 := Lib.hid (FQ.out.below RC.out (Nat.le_refl _))
      have FP_11 := Lib.hid (FP.out.below RC.out (Nat.le_refl _))
      have HB11 := Lib.hid (HB1.out.trans (RC.out.mono HB1.out.size))
      clear HB1 FQ FP RB10
      refine wpListIn_nil ?_
      have p0 : w11.cell? ⟨b, off + k * 3, none⟩ = some (.bool (d k)) := (HB11.out.cell (p := ⟨b, off + k * 3, none⟩) HBL.out).trans (HC.out k hlt).1
      cases hl : lR v Q F G x y k
      · have HL := Lib.hid hl; clear hl
        go_wp2_with fail
        go_roundw
        case rel => exact ⟨k + 1, hlt, by unfold alR; rw [anyB, HL.out]; simp, by go_num, by have := HDE.out; unfold deR at *; rw [anyB, HL.out, this]; rfl, FP_11.out, HB11.out⟩
        case measure => exact hms.out
      · have HL := Lib.hid hl; clear hl
        cases hd : d k
        · rw [hd] at p0
          have HD := Lib.hid hd; clear hd
          go_wp2_with fail
          go_roundw
          case rel => exact ⟨k + 1, hlt, by unfold alR; rw [anyB, HL.out, HD.out]; simp, by go_num, by have := HDE.out; unfold deR at *; rw [anyB, HL.out, HD.out, this]; rfl, FP_11.out, HB11.out⟩
          case measure => exact hms.out
        · rw [hd] at p0
          have HD := Lib.hid hd; clear hd
          have HM := Lib.hid (show memR d (lR v Q F G x y) n = false from by have := (anyB_iff (fun i => lR v Q F G x y i && d i) n).2 ⟨k, hlt, by rw [HL.out, HD.out]; rfl⟩; unfold memR deR; rw [this]; simp)
          go_wp2_with fail
          go_ret
          exact ⟨congrArg (fun b => Ending.returned (Value.bool b)) HM.out.symm, HB11.out⟩
    · obtain rfl : k = n := by omega
      have HM := Lib.hid (show memR d (lR v Q F G x y) k = alR d (lR v Q F G x y) k from by unfold memR; rw [HDE.out]; simp)
      go_wp2_with fail
      go_ret
      exact ⟨congrArg (fun b => Ending.returned (Value.bool b)) HM.out.symm, HB1.out⟩
set_option maxHeartbeats 4000000 in
set_option maxRecDepth 100000 in
theorem ref19_Fence (A : Option Addr) (n c : Nat) (d : Nat → Bool) (v : Nat → Int) (Q : Nat → Option Addr × Nat × Nat) (F G : Nat → Nat → Int) (x y : Int) (hx : IsI x) (hy : IsI y) (w : World) (hr : Rgs w A n c d v Q) (hp : RgP w n Q F G) (ho : OkR n v Q) :
    Calls Tryz.prog 18 #[.slice A n c, .agg #[.int .i64 x, .int .i64 y]] w fun e w' => e = .returned (.int .i64 (fenA (allB (vR v Q F G) n) (memR d (lR v Q F G x y) n))) ∧ Below w.heap.size w w' := by
  have HR := Lib.hid hr
  have HP := Lib.hid hp
  have HO := Lib.hid ho
  have HX := Lib.hid hx
  have HY := Lib.hid hy
  clear hr ho hp hx hy
  obtain ⟨va, hva⟩ : ∃ va, va = allB (vR v Q F G) n := ⟨_, rfl⟩
  obtain ⟨ma, hma⟩ : ∃ ma, ma = memR d (lR v Q F G x y) n := ⟨_, rfl⟩
  rw [← hva, ← hma]
  have HVA := Lib.hid hva; have HMA := Lib.hid hma; clear hva hma
  go_enter Tryz.func18, Tryz.ntmps18
  go_wp2_with fail
  have HB1 := Lib.hid (show Below w.heap.size w (w.alloc (.cells #[.int .i64 x, .int .i64 y] 23)) from below_al below_rf)
  have FP := Lib.hid (Bx.new w #[.int .i64 x, .int .i64 y] 23)
  generalize w.alloc (.cells #[.int .i64 x, .int .i64 y] 23) = w1 at *
  refine (ref16_Valid A n c d v Q F G _ (HR.out.below HB1.out (Nat.le_refl _)) (HP.out.below HB1.out (Nat.le_refl _)) HO.out).mono ?_
  rintro e w2 ⟨rfl, B⟩
  have FP2 := Lib.hid (FP.out.below B (Nat.le_refl _))
  have HB2 := Lib.hid (HB1.out.trans (B.mono HB1.out.size)); clear B HB1 FP
  rw [← HVA.out]
  have p0 := FP2.out.cell 0 (v := .int .i64 x) rfl
  have p1 := FP2.out.cell 1 (v := .int .i64 y) rfl
  cases va
  · go_wp2_with fail
    go_ret
    exact ⟨rfl, HB2.out⟩
  · go_wp2_with fail
    clear p0 p1
    refine (ref16_Member A n c d v Q F G x y HX.out HY.out _ (HR.out.below HB2.out (Nat.le_refl _)) (HP.out.below HB2.out (Nat.le_refl _)) HO.out).mono ?_
    rintro e w3 ⟨rfl, B⟩
    have HB3 := Lib.hid (HB2.out.trans (B.mono HB2.out.size)); clear B HB2
    rw [← HMA.out]
    cases ma
    · go_wp2_with fail
      go_ret
      exact ⟨rfl, HB3.out⟩
    · go_wp2_with fail
      go_ret
      exact ⟨rfl, HB3.out⟩
end Go.Proofs.YtjdiilkljgljkaaGreatDoor
namespace Go.Proofs.YtjdiilkljgljkaaGreatDoor
set_option linter.unusedVariables false
set_option linter.unusedSimpArgs false
open Go.RowKit Wd

/-- calls of K on the regions' values answer false -/
structure NoK (K : FuncId) (n : Nat) (d : Nat → Bool) (v : Nat → Int) (Q : Nat → Option Addr × Nat × Nat) : Prop where
  enter : ∀ (args : Array Value) (w : World), (callFunc K args).run Tryz.prog w = .ok (.enter K args) w
  no : ∀ k, k < n → ∀ w : World, Calls Tryz.prog K #[.agg #[.bool (d k), .int .i64 (v k), .slice (Q k).1 (Q k).2.1 (Q k).2.2]] w fun e w' => e = .returned (.bool false) ∧ Below w.heap.size w w'
set_option maxHeartbeats 4000000 in
set_option maxRecDepth 100000 in
theorem index_no (K : FuncId) (A : Option Addr) (n c : Nat) (d : Nat → Bool) (v : Nat → Int) (Q : Nat → Option Addr × Nat × Nat) (hn : 0 < n) (hK : NoK K n d v Q) (w : World) (hr : Rgs w A n c d v Q) :
    Calls Tryz.prog 131 #[.slice A n c, .func (.func K) #[] #[]] w fun e w' => e = .returned (.int .i64 (-1)) ∧ Below w.heap.size w w' := by
  have HR := Lib.hid hr
  have HK := Lib.hid hK.no
  have hen := hK.enter
  have hcp := hr.cap
  have hmx := hr.max
  clear hr hK
  unfold maxLen at hmx
  obtain ⟨b, off, rfl, hbl, hc⟩ := HR.out.at_ hn
  have HC := Lib.hid hc; have HBL := Lib.hid hbl; clear hc hbl
  go_enter Tryz.func131, Tryz.ntmps131
  go_wp2_with fail
  go_loopw [8] (fun ir wr => ∃ k : Nat, k ≤ n ∧ ir = .int .i64 (k : Int) ∧ Below w.heap.size w wr) (fun i _ => n - (intOf i).toNat)
  case atStart => exact ⟨0, by omega, rfl, below_rf⟩
  case round =>
    obtain ⟨k, hk, rfl, hb⟩ := hrel
    have HB := Lib.hid hb; clear hb
    by_cases hlt : k < n
    · have p0 : wr.cell? ⟨b, off + k * 3, none⟩ = some (.bool (d k)) := (HB.out.cell (p := ⟨b, off + k * 3, none⟩) HBL.out).trans (HC.out k hlt).1
      have p1 : wr.cell? ⟨b, off + k * 3 + 1, none⟩ = some (.int .i64 (v k)) := (HB.out.cell (p := ⟨b, off + k * 3 + 1, none⟩) HBL.out).trans (HC.out k hlt).2.1
      have p2 : wr.cell? ⟨b, off + k * 3 + 2, none⟩ = some (.slice (Q k).1 (Q k).2.1 (Q k).2.2) := (HB.out.cell (p := ⟨b, off + k * 3 + 2, none⟩) HBL.out).trans (HC.out k hlt).2.2
      have hms := Lib.hid (show n - (intOf (.int .i64 ((k : Int) + 1))).toNat < n - (intOf (.int .i64 (k : Int))).toNat from by simp [intOf]; omega)
      go_wp2_with fail
      clear p0 p1 p2
      refine (HK.out k hlt _).mono ?_
      rintro e w2 ⟨rfl, B⟩
      have HB2 := Lib.hid (HB.out.trans (B.mono HB.out.size)); clear B HB
      go_wp2_with fail
      go_roundw
      case rel => exact ⟨k + 1, hlt, by go_num, HB2.out⟩
      case measure => exact hms.out
    · obtain rfl : k = n := by omega
      go_wp2_with fail
      go_ret
      exact ⟨rfl, HB.out⟩
set_option maxHeartbeats 4000000 in
set_option maxRecDepth 100000 in
theorem contains_no (K : FuncId) (A : Option Addr) (n c : Nat) (d : Nat → Bool) (v : Nat → Int) (Q : Nat → Option Addr × Nat × Nat) (hn : 0 < n) (hK : NoK K n d v Q) (w : World) (hr : Rgs w A n c d v Q) :
    Calls Tryz.prog 109 #[.slice A n c, .func (.func K) #[] #[]] w fun e w' => e = .returned (.bool false) ∧ Below w.heap.size w w' := by
  have HR := Lib.hid hr
  have HK := Lib.hid hK
  clear hr hK
  go_enter Tryz.func109, Tryz.ntmps109
  go_wp2_with fail
  refine (index_no K A n c d v Q hn HK.out _ HR.out).mono ?_
  rintro e w' ⟨rfl, B⟩
  have HB := Lib.hid B; clear B
  go_wp2_with fail
  go_ret
  exact ⟨rfl, HB.out⟩
set_option maxHeartbeats 4000000 in
set_option maxRecDepth 100000 in
theorem wrong1 (d : Bool) (v : Int) (A : Option Addr) (n c : Nat) (hv : szf v ≠ 0) (w : World) :
    Calls Tryz.prog 149 #[.agg #[.bool d, .int .i64 v, .slice A n c]] w fun e w' => e = .returned (.bool false) ∧ Below w.heap.size w w' := by
  have hz : (szf v == 0) = false := by simpa using hv
  clear hv
  go_enter Tryz.func149, Tryz.ntmps149
  go_wp2_with fail
  have HB := Lib.hid (show Below w.heap.size w (w.alloc (.cells #[.bool d, .int .i64 v, .slice A n c] 48)) from below_al below_rf)
  refine (fence_Size d v A n c _).mono ?_
  rintro e w2 ⟨rfl, B⟩
  have HB2 := Lib.hid (HB.out.trans (B.mono HB.out.size)); clear B HB
  go_wp2_with fail
  go_ret
  exact ⟨rfl, HB2.out⟩
set_option maxHeartbeats 4000000 in
set_option maxRecDepth 100000 in
theorem wrongP (d : Bool) (v : Int) (A : Option Addr) (n c : Nat) (hv : szf v ≠ 0) (w : World) :
    Calls Tryz.prog 110 #[.agg #[.bool d, .int .i64 v, .slice A n c]] w fun e w' => e = .returned (.bool false) ∧ Below w.heap.size w w' := by
  have hz : (szf v == 0) = false := by simpa using hv
  clear hv
  go_enter Tryz.func110, Tryz.ntmps110
  go_wp2_with fail
  have HB := Lib.hid (show Below w.heap.size w (w.alloc (.cells #[.bool d, .int .i64 v, .slice A n c] 48)) from below_al below_rf)
  refine (fence_Size d v A n c _).mono ?_
  rintro e w2 ⟨rfl, B⟩
  have HB2 := Lib.hid (HB.out.trans (B.mono HB.out.size)); clear B HB
  go_wp2_with fail
  go_ret
  exact ⟨rfl, HB2.out⟩
set_option maxHeartbeats 4000000 in
set_option maxRecDepth 100000 in
theorem wrong2 (d : Bool) (v : Int) (A : Option Addr) (c : Nat) (w : World) :
    Calls Tryz.prog 150 #[.agg #[.bool d, .int .i64 v, .slice A 0 c]] w fun e w' => e = .returned (.bool false) ∧ Below w.heap.size w w' := by
  go_enter Tryz.func150, Tryz.ntmps150
  go_wp2_with fail
  go_ret
  exact ⟨rfl, below_al below_rf⟩
theorem noK1 {n : Nat} {d : Nat → Bool} {v : Nat → Int} {Q : Nat → Option Addr × Nat × Nat} (ho : OkK n v) : NoK 149 n d v Q :=
  ⟨fun args w => by kernel_rfl, fun k hk w => wrong1 _ _ _ _ _ (ho.kind k hk) w⟩
theorem noKP {n : Nat} {d : Nat → Bool} {v : Nat → Int} {Q : Nat → Option Addr × Nat × Nat} (ho : OkK n v) : NoK 110 n d v Q :=
  ⟨fun args w => by kernel_rfl, fun k hk w => wrongP _ _ _ _ _ (ho.kind k hk) w⟩
theorem noK2 {n : Nat} {d : Nat → Bool} {v : Nat → Int} {Q : Nat → Option Addr × Nat × Nat} (hq : ∀ k, k < n → (Q k).2.1 = 0) : NoK 150 n d v Q :=
  ⟨fun args w => by kernel_rfl, fun k hk w => by rw [hq k hk]; exact wrong2 _ _ _ _ w⟩
/-- the numbers of a header with regions: operation 4 without, operation 5 with a number of points -/
def OpP (op p : Int) : Prop := (op = 4 ∧ p = 0) ∨ (op = 5 ∧ 1 ≤ p ∧ p ≤ 4096)
set_option maxHeartbeats 4000000 in
set_option maxRecDepth 100000 in
theorem header_checkR (op p : Int) (hop : OpP op p) (A : Option Addr) (n c : Nat) (d : Nat → Bool) (v : Nat → Int) (Q : Nat → Option Addr × Nat × Nat) (ho : OkK n v) (hq : ∀ k, k < n → (Q k).2.1 = 0) (w : World) (hr : Rgs w A n c d v Q) :
    Calls Tryz.prog 123 #[.agg #[.int .i64 op, .int .i64 0, .slice A n c, .int .i64 p]] w fun e w' => e = .returned (.int .i64 0) ∧ Below w.heap.size w w' := by
  have HR := Lib.hid hr
  have HK := Lib.hid ho
  have HQ := Lib.hid hq
  have h1 := ho.pos
  have h2 := ho.le
  clear hr ho hq
  rcases hop with ⟨h, h'⟩ | ⟨h, h3, h4⟩
  · subst h; subst h'
    go_enter Tryz.func123, Tryz.ntmps123
    go_wp2_with fail
    go_quiet (fail)
    go_wp2_with fail
    have HB := Lib.hid (show Below w.heap.size w ((w.alloc (.cells #[.int .i64 4, .int .i64 0, .slice A n c, .int .i64 0] 28)).drewN nq) from below_drewN (below_al below_rf))
    have FX := Lib.hid (show Bx ((w.alloc (.cells #[.int .i64 4, .int .i64 0, .slice A n c, .int .i64 0] 28)).drewN nq) w.heap.size #[.int .i64 4, .int .i64 0, .slice A n c, .int .i64 0] 28 from Bx.new w _ _)
    generalize ((w.alloc (.cells #[.int .i64 4, .int .i64 0, .slice A n c, .int .i64 0] 28)).drewN nq) = w1 at *
    refine (contains_no 149 A n c d v Q (by omega) (noK1 HK.out) _ (HR.out.below HB.out (Nat.le_refl _))).mono ?_
    rintro e w2 ⟨rfl, B⟩
    have FX2 := Lib.hid (FX.out.below B (Nat.le_refl _))
    have HB2 := Lib.hid (HB.out.trans (B.mono HB.out.size)); clear B HB FX
    have c0 := FX2.out.cell 0 (v := .int .i64 4) rfl
    have c1 := FX2.out.cell 1 (v := .int .i64 0) rfl
    have c2 := FX2.out.cell 2 (v := .slice A n c) rfl
    have c3 := FX2.out.cell 3 (v := .int .i64 0) rfl
    go_wp2_with fail
    clear c0 c1 c2 c3
    refine (contains_no 150 A n c d v Q (by omega) (noK2 HQ.out) _ (HR.out.below HB2.out (Nat.le_refl _))).mono ?_
    rintro e w3 ⟨rfl, B⟩
    have HB3 := Lib.hid (HB2.out.trans (B.mono HB2.out.size)); clear B HB2
    go_wp2_with fail
    go_ret
    exact ⟨rfl, HB3.out⟩
  · subst h
    go_enter Tryz.func123, Tryz.ntmps123
    go_wp2_with fail
    go_quiet (fail)
    go_wp2_with fail
    have HB := Lib.hid (show Below w.heap.size w ((w.alloc (.cells #[.int .i64 5, .int .i64 0, .slice A n c, .int .i64 p] 28)).drewN nq) from below_drewN (below_al below_rf))
    have FX := Lib.hid (show Bx ((w.alloc (.cells #[.int .i64 5, .int .i64 0, .slice A n c, .int .i64 p] 28)).drewN nq) w.heap.size #[.int .i64 5, .int .i64 0, .slice A n c, .int .i64 p] 28 from Bx.new w _ _)
    generalize ((w.alloc (.cells #[.int .i64 5, .int .i64 0, .slice A n c, .int .i64 p] 28)).drewN nq) = w1 at *
    refine (contains_no 149 A n c d v Q (by omega) (noK1 HK.out) _ (HR.out.below HB.out (Nat.le_refl _))).mono ?_
    rintro e w2 ⟨rfl, B⟩
    have FX2 := Lib.hid (FX.out.below B (Nat.le_refl _))
    have HB2 := Lib.hid (HB.out.trans (B.mono HB.out.size)); clear B HB FX
    have c0 := FX2.out.cell 0 (v := .int .i64 5) rfl
    have c1 := FX2.out.cell 1 (v := .int .i64 0) rfl
    have c2 := FX2.out.cell 2 (v := .slice A n c) rfl
    have c3 := FX2.out.cell 3 (v := .int .i64 p) rfl
    go_wp2_with fail
    clear c0 c1 c2 c3
    refine (contains_no 150 A n c d v Q (by omega) (noK2 HQ.out) _ (HR.out.below HB2.out (Nat.le_refl _))).mono ?_
    rintro e w3 ⟨rfl, B⟩
    have HB3 := Lib.hid (HB2.out.trans (B.mono HB2.out.size)); clear B HB2
    go_wp2_with fail
    go_ret
    exact ⟨rfl, HB3.out⟩
end Go.Proofs.YtjdiilkljgljkaaGreatDoor
namespace Go.Proofs.YtjdiilkljgljkaaGreatDoor
set_option linter.unusedVariables false
set_option linter.unusedSimpArgs false
open Go.RowKit Wd


/-- the number of points of the first regions -/
def sumZ (v : Nat → Int) : Nat → Int
  | 0 => 0
  | k + 1 => sumZ v k + szf (v k)
theorem sumZ_range (v : Nat → Int) : ∀ k, 0 ≤ sumZ v k ∧ sumZ v k ≤ 64 * (k : Int)
  | 0 => by simp [sumZ]
  | k + 1 => by have := sumZ_range v k; have := szf_range (v k); rw [sumZ]; omega
/-- the payload's length -/
def payR (op p S : Int) : Int := if op = 4 then (1 + S) * 16 else S * 16 + p * 24
set_option maxHeartbeats 4000000 in
set_option maxRecDepth 100000 in
theorem header_PayloadR (op p : Int) (hop : OpP op p) (A : Option Addr) (n c : Nat) (d : Nat → Bool) (v : Nat → Int) (Q : Nat → Option Addr × Nat × Nat) (ho : OkK n v) (hq : ∀ k, k < n → (Q k).2.1 = 0) (w : World) (hT : TabF w) (hr : Rgs w A n c d v Q) :
    Calls Tryz.prog 108 #[.agg #[.int .i64 op, .int .i64 0, .slice A n c, .int .i64 p]] w fun e w' => e = .returned (.int .i64 (payR op p (sumZ v n))) ∧ Below w.heap.size w w' := by
  have HR := Lib.hid hr; have HO := Lib.hid ho; have HQ := Lib.hid hq; have HT := Lib.hid hT
  have HOP := hop
  have hcp := hr.cap
  have hmx := hr.max
  have h1 := ho.pos
  have h2 := ho.le
  clear hr ho hq hT
  unfold maxLen at hmx
  obtain ⟨b, off, rfl, hbl, hc⟩ := HR.out.at_ (by omega)
  have HC := Lib.hid hc; have HBL := Lib.hid hbl; clear hc hbl
  rcases hop with ⟨h, h'⟩ | ⟨h, hp1, hp2⟩
  · subst h; subst h'
    go_enter Tryz.func108, Tryz.ntmps108
    go_wp2_with fail
    have HX := Lib.hid (Bx.new w #[.int .i64 4, .int .i64 0, .slice (some ⟨b, off, none⟩) n c, .int .i64 0] 28)
    have HB1 := Lib.hid (show Below w.heap.size w (w.alloc (.cells #[.int .i64 4, .int .i64 0, .slice (some ⟨b, off, none⟩) n c, .int .i64 0] 28)) from below_al below_rf)
    generalize w.alloc (.cells #[.int .i64 4, .int .i64 0, .slice (some ⟨b, off, none⟩) n c, .int .i64 0] 28) = w1 at *
    refine (header_checkR 4 0 HOP (some ⟨b, off, none⟩) n c d v Q HO.out HQ.out _ (HR.out.below HB1.out (Nat.le_refl _))).mono ?_
    rintro e w2 ⟨rfl, B⟩
    have HX2 := Lib.hid (HX.out.below B (Nat.le_refl _)); have HB2 := Lib.hid (below_tr HB1.out B); have HT2 := Lib.hid (HT.out.below HB2.out (Nat.le_refl _))
    clear B HX HB1
    have c0 := HX2.out.cell 0 (v := .int .i64 4) rfl
    have c1 := HX2.out.cell 1 (v := .int .i64 0) rfl
    have c2 := HX2.out.cell 2 (v := .slice (some ⟨b, off, none⟩) n c) rfl
    have c3 := HX2.out.cell 3 (v := .int .i64 0) rfl
    have t1 := HT2.out.c4
    go_wp2_with fail
    go_quiet (fail)
    go_wp2_with fail
    clear c0 c1 c2 c3 t1
    have HB3 := Lib.hid (show Below w.heap.size w (w2.drewN nq) from below_drewN HB2.out)
    have HX3 := Lib.hid (show Bx (w2.drewN nq) w.heap.size #[.int .i64 4, .int .i64 0, .slice (some ⟨b, off, none⟩) n c, .int .i64 0] 28 from HX2.out)
    clear HX2 HB2 HT2
    generalize w2.drewN nq = w3 at *
    go_loopw [3, 19] (fun mr ir wr => ∃ (k : Nat) (s : Int), k ≤ n ∧ mr = .int .i64 s ∧ s = 1 + sumZ v k ∧ ir = .int .i64 (k : Int) ∧ Bx wr w.heap.size #[.int .i64 4, .int .i64 0, .slice (some ⟨b, off, none⟩) n c, .int .i64 0] 28 ∧ Below w.heap.size w wr) (fun _ i _ => n - (intOf i).toNat)
    case atStart => exact ⟨0, 1, by omega, rfl, rfl, rfl, HX3.out, HB3.out⟩
    case round =>
      obtain ⟨k, s, hk, rfl, hsz, rfl, hx, hb⟩ := hrel
      have HB := Lib.hid hb; have HXR := Lib.hid hx; have HS := Lib.hid hsz; clear hb hx hsz
      by_cases hlt : k < n
      · have p0 : wr.cell? ⟨b, off + k * 3, none⟩ = some (.bool (d k)) := (HB.out.cell (p := ⟨b, off + k * 3, none⟩) HBL.out).trans (HC.out k hlt).1
        have p1 : wr.cell? ⟨b, off + k * 3 + 1, none⟩ = some (.int .i64 (v k)) := (HB.out.cell (p := ⟨b, off + k * 3 + 1, none⟩) HBL.out).trans (HC.out k hlt).2.1
        have p2 : wr.cell? ⟨b, off + k * 3 + 2, none⟩ = some (.slice (Q k).1 (Q k).2.1 (Q k).2.2) := (HB.out.cell (p := ⟨b, off + k * 3 + 2, none⟩) HBL.out).trans (HC.out k hlt).2.2
        have hms := Lib.hid (show n - (intOf (.int .i64 ((k : Int) + 1))).toNat < n - (intOf (.int .i64 (k : Int))).toNat from by simp [intOf]; omega)
        go_wp2_with fail
        clear p0 p1 p2
        have HX5 := Lib.hid (HXR.out.alloc (.cells #[.bool (d k), .int .i64 (v k), .slice (Q k).1 (Q k).2.1 (Q k).2.2] 48))
        have HB5 := Lib.hid (HB.out.trans ((show Below wr.heap.size wr (wr.alloc (.cells #[.bool (d k), .int .i64 (v k), .slice (Q k).1 (Q k).2.1 (Q k).2.2] 48)) from below_al below_rf).mono HB.out.size)); clear HB HXR
        refine (fence_Size (d k) (v k) _ _ _ _).mono ?_
        rintro e w6 ⟨rfl, B⟩
        have HX6 := Lib.hid (HX5.out.below B (Nat.le_refl _))
        have HB6 := Lib.hid (HB5.out.trans (B.mono HB5.out.size)); clear B HB5 HX5
        have HSR := Lib.hid (sumZ_range v k); have HZR := Lib.hid (szf_range (v k))
        have e1 : IntKind.i64.wrap (s + szf (v k)) = s + szf (v k) := by have := HSR.out; have := HZR.out; have := HS.out; rw [IntKind.wrap_i64]; omega
        go_wp2_with fail
        go_roundw
        case rel => exact ⟨k + 1, _, hlt, rfl, by have := HS.out; rw [sumZ]; omega, by go_num, HX6.out, HB6.out⟩
        case measure => exact hms.out
      · obtain rfl : k = n := by omega
        have c3 := HXR.out.cell 3 (v := .int .i64 0) rfl
        have HSR := Lib.hid (sumZ_range v k)
        have e1 : IntKind.i64.wrap (s * 16) = s * 16 := by have := HSR.out; have := HS.out; rw [IntKind.wrap_i64]; omega
        have e2 : IntKind.i64.wrap (0 * 24) = 0 * 24 := by rw [IntKind.wrap_i64]; omega
        have e3 : IntKind.i64.wrap (s * 16 + 0 * 24) = s * 16 + 0 * 24 := by have := HSR.out; have := HS.out; rw [IntKind.wrap_i64]; omega
        have HE := Lib.hid (show payR 4 0 (sumZ v k) = s * 16 + 0 * 24 from by rw [HS.out]; unfold payR; simp)
        go_wp2_with fail
        go_ret
        exact ⟨by rw [HE.out]; simp, HB.out⟩
  · subst h
    go_enter Tryz.func108, Tryz.ntmps108
    go_wp2_with fail
    have HX := Lib.hid (Bx.new w #[.int .i64 5, .int .i64 0, .slice (some ⟨b, off, none⟩) n c, .int .i64 p] 28)
    have HB1 := Lib.hid (show Below w.heap.size w (w.alloc (.cells #[.int .i64 5, .int .i64 0, .slice (some ⟨b, off, none⟩) n c, .int .i64 p] 28)) from below_al below_rf)
    generalize w.alloc (.cells #[.int .i64 5, .int .i64 0, .slice (some ⟨b, off, none⟩) n c, .int .i64 p] 28) = w1 at *
    refine (header_checkR 5 p HOP (some ⟨b, off, none⟩) n c d v Q HO.out HQ.out _ (HR.out.below HB1.out (Nat.le_refl _))).mono ?_
    rintro e w2 ⟨rfl, B⟩
    have HX2 := Lib.hid (HX.out.below B (Nat.le_refl _)); have HB2 := Lib.hid (below_tr HB1.out B); have HT2 := Lib.hid (HT.out.below HB2.out (Nat.le_refl _))
    clear B HX HB1
    have c0 := HX2.out.cell 0 (v := .int .i64 5) rfl
    have c1 := HX2.out.cell 1 (v := .int .i64 0) rfl
    have c2 := HX2.out.cell 2 (v := .slice (some ⟨b, off, none⟩) n c) rfl
    have c3 := HX2.out.cell 3 (v := .int .i64 p) rfl
    have t1 := HT2.out.c5
    go_wp2_with fail
    go_quiet (fail)
    go_wp2_with fail
    clear c0 c1 c2 c3 t1
    have HB3 := Lib.hid (show Below w.heap.size w (w2.drewN nq) from below_drewN HB2.out)
    have HX3 := Lib.hid (show Bx (w2.drewN nq) w.heap.size #[.int .i64 5, .int .i64 0, .slice (some ⟨b, off, none⟩) n c, .int .i64 p] 28 from HX2.out)
    clear HX2 HB2 HT2
    generalize w2.drewN nq = w3 at *
    go_loopw [3, 19] (fun mr ir wr => ∃ (k : Nat) (s : Int), k ≤ n ∧ mr = .int .i64 s ∧ s = 0 + sumZ v k ∧ ir = .int .i64 (k : Int) ∧ Bx wr w.heap.size #[.int .i64 5, .int .i64 0, .slice (some ⟨b, off, none⟩) n c, .int .i64 p] 28 ∧ Below w.heap.size w wr) (fun _ i _ => n - (intOf i).toNat)
    case atStart => exact ⟨0, 0, by omega, rfl, rfl, rfl, HX3.out, HB3.out⟩
    case round =>
      obtain ⟨k, s, hk, rfl, hsz, rfl, hx, hb⟩ := hrel
      have HB := Lib.hid hb; have HXR := Lib.hid hx; have HS := Lib.hid hsz; clear hb hx hsz
      by_cases hlt : k < n
      · have p0 : wr.cell? ⟨b, off + k * 3, none⟩ = some (.bool (d k)) := (HB.out.cell (p := ⟨b, off + k * 3, none⟩) HBL.out).trans (HC.out k hlt).1
        have p1 : wr.cell? ⟨b, off + k * 3 + 1, none⟩ = some (.int .i64 (v k)) := (HB.out.cell (p := ⟨b, off + k * 3 + 1, none⟩) HBL.out).trans (HC.out k hlt).2.1
        have p2 : wr.cell? ⟨b, off + k * 3 + 2, none⟩ = some (.slice (Q k).1 (Q k).2.1 (Q k).2.2) := (HB.out.cell (p := ⟨b, off + k * 3 + 2, none⟩) HBL.out).trans (HC.out k hlt).2.2
        have hms := Lib.hid (show n - (intOf (.int .i64 ((k : Int) + 1))).toNat < n - (intOf (.int .i64 (k : Int))).toNat from by simp [intOf]; omega)
        go_wp2_with fail
        clear p0 p1 p2
        have HX5 := Lib.hid (HXR.out.alloc (.cells #[.bool (d k), .int .i64 (v k), .slice (Q k).1 (Q k).2.1 (Q k).2.2] 48))
        have HB5 := Lib.hid (HB.out.trans ((show Below wr.heap.size wr (wr.alloc (.cells #[.bool (d k), .int .i64 (v k), .slice (Q k).1 (Q k).2.1 (Q k).2.2] 48)) from below_al below_rf).mono HB.out.size)); clear HB HXR
        refine (fence_Size (d k) (v k) _ _ _ _).mono ?_
        rintro e w6 ⟨rfl, B⟩
        have HX6 := Lib.hid (HX5.out.below B (Nat.le_refl _))
        have HB6 := Lib.hid (HB5.out.trans (B.mono HB5.out.size)); clear B HB5 HX5
        have HSR := Lib.hid (sumZ_range v k); have HZR := Lib.hid (szf_range (v k))
        have e1 : IntKind.i64.wrap (s + szf (v k)) = s + szf (v k) := by have := HSR.out; have := HZR.out; have := HS.out; rw [IntKind.wrap_i64]; omega
        go_wp2_with fail
        go_roundw
        case rel => exact ⟨k + 1, _, hlt, rfl, by have := HS.out; rw [sumZ]; omega, by go_num, HX6.out, HB6.out⟩
        case measure => exact hms.out
      · obtain rfl : k = n := by omega
        have c3 := HXR.out.cell 3 (v := .int .i64 p) rfl
        have HSR := Lib.hid (sumZ_range v k)
        have e1 : IntKind.i64.wrap (s * 16) = s * 16 := by have := HSR.out; have := HS.out; rw [IntKind.wrap_i64]; omega
        have e2 : IntKind.i64.wrap (p * 24) = p * 24 := by rw [IntKind.wrap_i64]; omega
        have e3 : IntKind.i64.wrap (s * 16 + p * 24) = s * 16 + p * 24 := by have := HSR.out; have := HS.out; rw [IntKind.wrap_i64]; omega
        have HE := Lib.hid (show payR 5 p (sumZ v k) = s * 16 + p * 24 from by rw [HS.out]; unfold payR; simp)
        go_wp2_with fail
        go_ret
        exact ⟨by rw [HE.out]; simp, HB.out⟩
end Go.Proofs.YtjdiilkljgljkaaGreatDoor
namespace Go.Proofs.YtjdiilkljgljkaaGreatDoor
set_option linter.unusedVariables false
set_option linter.unusedSimpArgs false
open Go.RowKit Wd


/-- the byte of a region's kind -/
def codB (d : Nat → Bool) (v : Nat → Int) (i : Nat) : Int := if d i then v i + 128 else v i
def codL (d : Nat → Bool) (v : Nat → Int) : Nat → List Int
  | 0 => []
  | k + 1 => codL d v k ++ [codB d v k]
theorem codL_len (d : Nat → Bool) (v : Nat → Int) : ∀ k, (codL d v k).length = k
  | 0 => rfl
  | k + 1 => by rw [codL, List.length_append, codL_len d v k]; rfl
/-- the bytes of the number of points -/
def ptsN (op p : Int) : List Int := if op = 4 then [] else [p % 256, p / 256]
/-- the header's bytes -/
def hdrB (op : Int) (n : Nat) (d : Nat → Bool) (v : Nat → Int) (p : Int) : List Int := op :: (n : Int) :: codL d v n ++ ptsN op p
theorem or_128 {x : Int} (h0 : 0 ≤ x) (h1 : x ≤ 64) : bits .or .u8 x 128 = x + 128 := by
  have h : ∀ m : Fin 65, bits .or .u8 ((m : Nat) : Int) 128 = ((m : Nat) : Int) + 128 := by decide
  have := h ⟨x.toNat, by omega⟩
  rw [show ((x.toNat : Nat) : Int) = x by omega] at this
  exact this
theorem wrap_u8_le {x : Int} (h0 : 0 ≤ x) (h1 : x ≤ 255) : IntKind.u8.wrap x = x := by rw [IntKind.wrap_u8]; omega
theorem OwB.snoc2 {w : World} {base : Nat} {v : Value} {l : List Int} {n : Nat} {x y : Int} (h : w.ownsRow base 5 1 v n (bCells l ++ [.int .u8 x, .int .u8 y])) (hn : n = l.length + 2) : OwB w base v (l ++ [x, y]) := by
  unfold OwB; rw [bCells_app, List.length_append]; subst hn; exact h
theorem cells_one_at {w : World} {b : Nat} (hb : b = w.heap.size) (u : Value) (t : TypeId) : ∀ j x, [u][j]? = some x → (w.alloc (.cells #[u] t)).cell? ((⟨b, 0, none⟩ : Addr).add j) = some x := by
  subst hb; exact cells_one_new w u t
theorem cells_two_at {w : World} {b : Nat} (hb : b = w.heap.size) (u v : Value) (t : TypeId) : ∀ j x, [u, v][j]? = some x → (w.alloc (.cells #[u, v] t)).cell? ((⟨b, 0, none⟩ : Addr).add j) = some x := by
  subst hb
  intro j x h
  have hb : Bx (w.alloc (.cells #[u, v] t)) w.heap.size #[u, v] t := Bx.new _ _ _
  match j, h with
  | 0, h => exact hb.cell 0 (v := x) (by simpa using h)
  | 1, h => exact hb.cell 1 (v := x) (by simpa using h)
set_option maxHeartbeats 4000000 in
set_option maxRecDepth 100000 in
theorem header_FormatR (op p : Int) (hop : OpP op p) (A : Option Addr) (n c : Nat) (d : Nat → Bool) (v : Nat → Int) (Q : Nat → Option Addr × Nat × Nat) (ho : OkK n v) (hq : ∀ k, k < n → (Q k).2.1 = 0) (w : World) (hr : Rgs w A n c d v Q) :
    Calls Tryz.prog 88 #[.agg #[.int .i64 op, .int .i64 0, .slice A n c, .int .i64 p]] w fun e w' => (∃ v', e = .returned (.tuple #[v', .int .i64 0]) ∧ OwB w' w.heap.size v' (hdrB op n d v p)) ∧ Below w.heap.size w w' := by
  obtain ⟨i0, hi0, hz0, hz1, hz2⟩ := info_parts infoB
  have HR := Lib.hid hr; have HO := Lib.hid ho; have HQ := Lib.hid hq
  have HOP := hop
  have hcp := hr.cap
  have hmx := hr.max
  have h1 := ho.pos
  have h2 := ho.le
  clear hr ho hq
  unfold maxLen at hmx
  obtain ⟨b, off, rfl, hbl, hc⟩ := HR.out.at_ (by omega)
  have HC := Lib.hid hc; have HBL := Lib.hid hbl; clear hc hbl
  rcases hop with ⟨h, h'⟩ | ⟨h, hp1, hp2⟩
  · subst h; subst h'
    go_enter Tryz.func88, Tryz.ntmps88
    go_wp2_with fail
    have HX := Lib.hid (Bx.new w #[.int .i64 4, .int .i64 0, .slice (some ⟨b, off, none⟩) n c, .int .i64 0] 28)
    have HB1 := Lib.hid (show Below w.heap.size w (w.alloc (.cells #[.int .i64 4, .int .i64 0, .slice (some ⟨b, off, none⟩) n c, .int .i64 0] 28)) from below_al below_rf)
    generalize w.alloc (.cells #[.int .i64 4, .int .i64 0, .slice (some ⟨b, off, none⟩) n c, .int .i64 0] 28) = w1 at *
    have c0 := HX.out.cell 0 (v := .int .i64 4) rfl
    have c1 := HX.out.cell 1 (v := .int .i64 0) rfl
    have c2 := HX.out.cell 2 (v := .slice (some ⟨b, off, none⟩) n c) rfl
    have c3 := HX.out.cell 3 (v := .int .i64 0) rfl
    go_wp2_with fail
    clear c0 c1 c2 c3
    refine (header_checkR 4 0 HOP (some ⟨b, off, none⟩) n c d v Q HO.out HQ.out _ (HR.out.below HB1.out (Nat.le_refl _))).mono ?_
    rintro e w2 ⟨rfl, B⟩
    have HX2 := Lib.hid (HX.out.below B (Nat.le_refl _)); have HB2 := Lib.hid (below_tr HB1.out B)
    clear B HX HB1
    have c0 := HX2.out.cell 0 (v := .int .i64 4) rfl
    have c1 := HX2.out.cell 1 (v := .int .i64 0) rfl
    have c2 := HX2.out.cell 2 (v := .slice (some ⟨b, off, none⟩) n c) rfl
    have c3 := HX2.out.cell 3 (v := .int .i64 0) rfl
    have hlt2 := HX2.out.lt
    have hsz := HB2.out.size
    have en := wrap_u8_le (x := (n : Int)) (by omega) (by omega)
    have HO1 := Lib.hid (show OwB (w2.alloc (.cells #[.int .u8 4] 5)) w.heap.size (.slice (some ⟨w2.heap.size, 0, none⟩) 1 1) [4] from ⟨rfl, .inr ⟨w2.heap.size, 1, #[.int .u8 4], rfl, HB2.out.size, Bx.new _ _ _, Nat.le_refl _, by decide, rfl, rfl⟩⟩)
    go_wp2_with (at_builtin; refine wpList_append_own _ rfl _ _ 24 rfl w.heap.size 5 i0 (.int .u8 0) 1 1 Tryz.underlying24 hi0 hz0 hz1 hz2 rfl (by decide) _ _ _ rfl (HO1.out.alloc _) ⟨w2.heap.size + 1, 0, none⟩ 1 1 [.int .u8 (n : Int)] rfl rfl ?c1 ?c2 ?c3 ?c4 ?c5 ?_)
    case c1 => exact cells_one_at (by simp) _ _
    case c2 => simp [Value.oneCell']
    case c3 => skip; first | decide | (unfold maxLen; omega)
    case c4 => skip; first | decide | omega
    case c5 => first | (simp; done) | (simp; omega)
    intro v' w' hown2 hgrow _
    have HF3 := Lib.hid ((((Fr.refl w.heap.size none w2).alloc hsz (.cells #[.int .u8 4] 5)).alloc (Nat.le_trans hsz (by simp)) (.cells #[.int .u8 (n : Int)] 5)).grown hgrow (HO1.out.alloc _) (Nat.le_trans hsz (by simp; omega)))
    have HO3 := Lib.hid (show OwB w' w.heap.size v' (4 :: (n : Int) :: codL d v 0) from OwB.snoc (l := [4]) hown2 rfl)
    clear hown2 hgrow HO1 c0 c1 c2 c3 en hlt2 hsz
    have HX3 := Lib.hid (HF3.out.keep _ _ _ (by decide) (by simp) HX2.out)
    have c0 := HX3.out.cell 0 (v := .int .i64 4) rfl
    have c1 := HX3.out.cell 1 (v := .int .i64 0) rfl
    have c2 := HX3.out.cell 2 (v := .slice (some ⟨b, off, none⟩) n c) rfl
    have c3 := HX3.out.cell 3 (v := .int .i64 0) rfl
    go_wp2_with fail
    clear c0 c1 c2 c3
    go_loopw [5, 41] (fun vr ir wr => ∃ k : Nat, k ≤ n ∧ ir = .int .i64 (k : Int) ∧ OwB wr w.heap.size vr (4 :: (n : Int) :: codL d v k) ∧ Fr w.heap.size none w2 wr) (fun _ i _ => n - (intOf i).toNat)
    case atStart => exact ⟨0, by omega, rfl, HO3.out, HF3.out⟩
    case round =>
      obtain ⟨k, hk, rfl, hown, hfr⟩ := hrel
      have HOW := Lib.hid hown; have HFR := Lib.hid hfr; clear hown hfr
      have HB := Lib.hid (HB2.out.trans HFR.out.below)
      have HXR := Lib.hid (HFR.out.keep _ _ _ (by decide) (by simp) HX2.out)
      by_cases hlt : k < n
      · have p0 : wr.cell? ⟨b, off + k * 3, none⟩ = some (.bool (d k)) := (HB.out.cell (p := ⟨b, off + k * 3, none⟩) HBL.out).trans (HC.out k hlt).1
        have p1 : wr.cell? ⟨b, off + k * 3 + 1, none⟩ = some (.int .i64 (v k)) := (HB.out.cell (p := ⟨b, off + k * 3 + 1, none⟩) HBL.out).trans (HC.out k hlt).2.1
        have p2 : wr.cell? ⟨b, off + k * 3 + 2, none⟩ = some (.slice (Q k).1 (Q k).2.1 (Q k).2.2) := (HB.out.cell (p := ⟨b, off + k * 3 + 2, none⟩) HBL.out).trans (HC.out k hlt).2.2
        have hms := Lib.hid (show n - (intOf (.int .i64 ((k : Int) + 1))).toNat < n - (intOf (.int .i64 (k : Int))).toNat from by simp [intOf]; omega)
        have HRG := Lib.hid (HO.out.range hlt)
        have hsz := HB.out.size
        have e1 := wrap_u8_le (x := v k) HRG.out.1 (by have := HRG.out.2.1; omega)
        have e2 := or_128 HRG.out.1 HRG.out.2.1
        have HLN := Lib.hid (show ((4 :: (n : Int) :: codL d v k)).length = k + 2 from by simp [codL_len])
        cases hd : d k
        · have HCB := Lib.hid (show codB d v k = v k from by unfold codB; rw [hd]; rfl)
          rw [hd] at p0
          clear hd
          go_wp2_with (at_builtin; refine wpList_append_own _ rfl _ _ 24 rfl w.heap.size 5 i0 (.int .u8 0) 1 1 Tryz.underlying24 hi0 hz0 hz1 hz2 rfl (by decide) _ _ _ rfl ((HOW.out.alloc (.cells #[.bool false, .int .i64 (v k), .slice (Q k).1 (Q k).2.1 (Q k).2.2] 48)).alloc (.cells #[.int .u8 (v k)] 5)) ⟨wr.heap.size + 1, 0, none⟩ 1 1 [.int .u8 (v k)] rfl rfl ?c1 ?c2 ?c3 ?c4 ?c5 ?_)
          case c1 => exact cells_one_at (by simp) _ _
          case c2 => simp [Value.oneCell']
          case c3 => have := HLN.out; first | decide | (unfold maxLen; omega)
          case c4 => have := HLN.out; first | decide | omega
          case c5 => (simp; omega)
          intro v' w' hown2 hgrow _
          have HF9 := Lib.hid (((HFR.out.alloc hsz (.cells #[.bool false, .int .i64 (v k), .slice (Q k).1 (Q k).2.1 (Q k).2.2] 48)).alloc (Nat.le_trans hsz (by simp)) (.cells #[.int .u8 (v k)] 5)).grown hgrow ((HOW.out.alloc (.cells #[.bool false, .int .i64 (v k), .slice (Q k).1 (Q k).2.1 (Q k).2.2] 48)).alloc (.cells #[.int .u8 (v k)] 5)) (Nat.le_trans hsz (by simp; omega)))
          have HO9 := Lib.hid (show OwB w' w.heap.size v' (4 :: (n : Int) :: codL d v (k + 1)) from by
            have h := OwB.snoc (l := (4 :: (n : Int) :: codL d v k)) hown2 rfl
            rw [codL, HCB.out]; exact h)
          clear hown2 hgrow
          go_wp2_with fail
          go_roundw
          case rel => exact ⟨k + 1, hlt, by go_num, HO9.out, HF9.out⟩
          case measure => exact hms.out
        · have HCB := Lib.hid (show codB d v k = v k + 128 from by unfold codB; rw [hd]; rfl)
          rw [hd] at p0
          clear hd
          go_wp2_with (at_builtin; refine wpList_append_own _ rfl _ _ 24 rfl w.heap.size 5 i0 (.int .u8 0) 1 1 Tryz.underlying24 hi0 hz0 hz1 hz2 rfl (by decide) _ _ _ rfl ((HOW.out.alloc (.cells #[.bool true, .int .i64 (v k), .slice (Q k).1 (Q k).2.1 (Q k).2.2] 48)).alloc (.cells #[.int .u8 (v k + 128)] 5)) ⟨wr.heap.size + 1, 0, none⟩ 1 1 [.int .u8 (v k + 128)] rfl rfl ?c1 ?c2 ?c3 ?c4 ?c5 ?_)
          case c1 => exact cells_one_at (by simp) _ _
          case c2 => simp [Value.oneCell']
          case c3 => have := HLN.out; first | decide | (unfold maxLen; omega)
          case c4 => have := HLN.out; first | decide | omega
          case c5 => (simp; omega)
          intro v' w' hown2 hgrow _
          have HF9 := Lib.hid (((HFR.out.alloc hsz (.cells #[.bool true, .int .i64 (v k), .slice (Q k).1 (Q k).2.1 (Q k).2.2] 48)).alloc (Nat.le_trans hsz (by simp)) (.cells #[.int .u8 (v k + 128)] 5)).grown hgrow ((HOW.out.alloc (.cells #[.bool true, .int .i64 (v k), .slice (Q k).1 (Q k).2.1 (Q k).2.2] 48)).alloc (.cells #[.int .u8 (v k + 128)] 5)) (Nat.le_trans hsz (by simp; omega)))
          have HO9 := Lib.hid (show OwB w' w.heap.size v' (4 :: (n : Int) :: codL d v (k + 1)) from by
            have h := OwB.snoc (l := (4 :: (n : Int) :: codL d v k)) hown2 rfl
            rw [codL, HCB.out]; exact h)
          clear hown2 hgrow
          go_wp2_with fail
          go_roundw
          case rel => exact ⟨k + 1, hlt, by go_num, HO9.out, HF9.out⟩
          case measure => exact hms.out
      · obtain rfl : k = n := by omega
        have c0 := HXR.out.cell 0 (v := .int .i64 4) rfl
        have c1 := HXR.out.cell 1 (v := .int .i64 0) rfl
        have c2 := HXR.out.cell 2 (v := .slice (some ⟨b, off, none⟩) k c) rfl
        have c3 := HXR.out.cell 3 (v := .int .i64 0) rfl
        go_wp2_with fail
        go_ret2
        exact ⟨⟨_, rfl, by have := HOW.out; unfold hdrB ptsN; simpa using this⟩, HB.out⟩
  · subst h
    go_enter Tryz.func88, Tryz.ntmps88
    go_wp2_with fail
    have HX := Lib.hid (Bx.new w #[.int .i64 5, .int .i64 0, .slice (some ⟨b, off, none⟩) n c, .int .i64 p] 28)
    have HB1 := Lib.hid (show Below w.heap.size w (w.alloc (.cells #[.int .i64 5, .int .i64 0, .slice (some ⟨b, off, none⟩) n c, .int .i64 p] 28)) from below_al below_rf)
    generalize w.alloc (.cells #[.int .i64 5, .int .i64 0, .slice (some ⟨b, off, none⟩) n c, .int .i64 p] 28) = w1 at *
    have c0 := HX.out.cell 0 (v := .int .i64 5) rfl
    have c1 := HX.out.cell 1 (v := .int .i64 0) rfl
    have c2 := HX.out.cell 2 (v := .slice (some ⟨b, off, none⟩) n c) rfl
    have c3 := HX.out.cell 3 (v := .int .i64 p) rfl
    go_wp2_with fail
    clear c0 c1 c2 c3
    refine (header_checkR 5 p HOP (some ⟨b, off, none⟩) n c d v Q HO.out HQ.out _ (HR.out.below HB1.out (Nat.le_refl _))).mono ?_
    rintro e w2 ⟨rfl, B⟩
    have HX2 := Lib.hid (HX.out.below B (Nat.le_refl _)); have HB2 := Lib.hid (below_tr HB1.out B)
    clear B HX HB1
    have c0 := HX2.out.cell 0 (v := .int .i64 5) rfl
    have c1 := HX2.out.cell 1 (v := .int .i64 0) rfl
    have c2 := HX2.out.cell 2 (v := .slice (some ⟨b, off, none⟩) n c) rfl
    have c3 := HX2.out.cell 3 (v := .int .i64 p) rfl
    have hlt2 := HX2.out.lt
    have hsz := HB2.out.size
    have en := wrap_u8_le (x := (n : Int)) (by omega) (by omega)
    have HO1 := Lib.hid (show OwB (w2.alloc (.cells #[.int .u8 5] 5)) w.heap.size (.slice (some ⟨w2.heap.size, 0, none⟩) 1 1) [5] from ⟨rfl, .inr ⟨w2.heap.size, 1, #[.int .u8 5], rfl, HB2.out.size, Bx.new _ _ _, Nat.le_refl _, by decide, rfl, rfl⟩⟩)
    go_wp2_with (at_builtin; refine wpList_append_own _ rfl _ _ 24 rfl w.heap.size 5 i0 (.int .u8 0) 1 1 Tryz.underlying24 hi0 hz0 hz1 hz2 rfl (by decide) _ _ _ rfl (HO1.out.alloc _) ⟨w2.heap.size + 1, 0, none⟩ 1 1 [.int .u8 (n : Int)] rfl rfl ?c1 ?c2 ?c3 ?c4 ?c5 ?_)
    case c1 => exact cells_one_at (by simp) _ _
    case c2 => simp [Value.oneCell']
    case c3 => skip; first | decide | (unfold maxLen; omega)
    case c4 => skip; first | decide | omega
    case c5 => first | (simp; done) | (simp; omega)
    intro v' w' hown2 hgrow _
    have HF3 := Lib.hid ((((Fr.refl w.heap.size none w2).alloc hsz (.cells #[.int .u8 5] 5)).alloc (Nat.le_trans hsz (by simp)) (.cells #[.int .u8 (n : Int)] 5)).grown hgrow (HO1.out.alloc _) (Nat.le_trans hsz (by simp; omega)))
    have HO3 := Lib.hid (show OwB w' w.heap.size v' (5 :: (n : Int) :: codL d v 0) from OwB.snoc (l := [5]) hown2 rfl)
    clear hown2 hgrow HO1 c0 c1 c2 c3 en hlt2 hsz
    have HX3 := Lib.hid (HF3.out.keep _ _ _ (by decide) (by simp) HX2.out)
    have c0 := HX3.out.cell 0 (v := .int .i64 5) rfl
    have c1 := HX3.out.cell 1 (v := .int .i64 0) rfl
    have c2 := HX3.out.cell 2 (v := .slice (some ⟨b, off, none⟩) n c) rfl
    have c3 := HX3.out.cell 3 (v := .int .i64 p) rfl
    go_wp2_with fail
    clear c0 c1 c2 c3
    go_loopw [5, 41] (fun vr ir wr => ∃ k : Nat, k ≤ n ∧ ir = .int .i64 (k : Int) ∧ OwB wr w.heap.size vr (5 :: (n : Int) :: codL d v k) ∧ Fr w.heap.size none w2 wr) (fun _ i _ => n - (intOf i).toNat)
    case atStart => exact ⟨0, by omega, rfl, HO3.out, HF3.out⟩
    case round =>
      obtain ⟨k, hk, rfl, hown, hfr⟩ := hrel
      have HOW := Lib.hid hown; have HFR := Lib.hid hfr; clear hown hfr
      have HB := Lib.hid (HB2.out.trans HFR.out.below)
      have HXR := Lib.hid (HFR.out.keep _ _ _ (by decide) (by simp) HX2.out)
      by_cases hlt : k < n
      · have p0 : wr.cell? ⟨b, off + k * 3, none⟩ = some (.bool (d k)) := (HB.out.cell (p := ⟨b, off + k * 3, none⟩) HBL.out).trans (HC.out k hlt).1
        have p1 : wr.cell? ⟨b, off + k * 3 + 1, none⟩ = some (.int .i64 (v k)) := (HB.out.cell (p := ⟨b, off + k * 3 + 1, none⟩) HBL.out).trans (HC.out k hlt).2.1
        have p2 : wr.cell? ⟨b, off + k * 3 + 2, none⟩ = some (.slice (Q k).1 (Q k).2.1 (Q k).2.2) := (HB.out.cell (p := ⟨b, off + k * 3 + 2, none⟩) HBL.out).trans (HC.out k hlt).2.2
        have hms := Lib.hid (show n - (intOf (.int .i64 ((k : Int) + 1))).toNat < n - (intOf (.int .i64 (k : Int))).toNat from by simp [intOf]; omega)
        have HRG := Lib.hid (HO.out.range hlt)
        have hsz := HB.out.size
        have e1 := wrap_u8_le (x := v k) HRG.out.1 (by have := HRG.out.2.1; omega)
        have e2 := or_128 HRG.out.1 HRG.out.2.1
        have HLN := Lib.hid (show ((5 :: (n : Int) :: codL d v k)).length = k + 2 from by simp [codL_len])
        cases hd : d k
        · have HCB := Lib.hid (show codB d v k = v k from by unfold codB; rw [hd]; rfl)
          rw [hd] at p0
          clear hd
          go_wp2_with (at_builtin; refine wpList_append_own _ rfl _ _ 24 rfl w.heap.size 5 i0 (.int .u8 0) 1 1 Tryz.underlying24 hi0 hz0 hz1 hz2 rfl (by decide) _ _ _ rfl ((HOW.out.alloc (.cells #[.bool false, .int .i64 (v k), .slice (Q k).1 (Q k).2.1 (Q k).2.2] 48)).alloc (.cells #[.int .u8 (v k)] 5)) ⟨wr.heap.size + 1, 0, none⟩ 1 1 [.int .u8 (v k)] rfl rfl ?c1 ?c2 ?c3 ?c4 ?c5 ?_)
          case c1 => exact cells_one_at (by simp) _ _
          case c2 => simp [Value.oneCell']
          case c3 => have := HLN.out; first | decide | (unfold maxLen; omega)
          case c4 => have := HLN.out; first | decide | omega
          case c5 => (simp; omega)
          intro v' w' hown2 hgrow _
          have HF9 := Lib.hid (((HFR.out.alloc hsz (.cells #[.bool false, .int .i64 (v k), .slice (Q k).1 (Q k).2.1 (Q k).2.2] 48)).alloc (Nat.le_trans hsz (by simp)) (.cells #[.int .u8 (v k)] 5)).grown hgrow ((HOW.out.alloc (.cells #[.bool false, .int .i64 (v k), .slice (Q k).1 (Q k).2.1 (Q k).2.2] 48)).alloc (.cells #[.int .u8 (v k)] 5)) (Nat.le_trans hsz (by simp; omega)))
          have HO9 := Lib.hid (show OwB w' w.heap.size v' (5 :: (n : Int) :: codL d v (k + 1)) from by
            have h := OwB.snoc (l := (5 :: (n : Int) :: codL d v k)) hown2 rfl
            rw [codL, HCB.out]; exact h)
          clear hown2 hgrow
          go_wp2_with fail
          go_roundw
          case rel => exact ⟨k + 1, hlt, by go_num, HO9.out, HF9.out⟩
          case measure => exact hms.out
        · have HCB := Lib.hid (show codB d v k = v k + 128 from by unfold codB; rw [hd]; rfl)
          rw [hd] at p0
          clear hd
          go_wp2_with (at_builtin; refine wpList_append_own _ rfl _ _ 24 rfl w.heap.size 5 i0 (.int .u8 0) 1 1 Tryz.underlying24 hi0 hz0 hz1 hz2 rfl (by decide) _ _ _ rfl ((HOW.out.alloc (.cells #[.bool true, .int .i64 (v k), .slice (Q k).1 (Q k).2.1 (Q k).2.2] 48)).alloc (.cells #[.int .u8 (v k + 128)] 5)) ⟨wr.heap.size + 1, 0, none⟩ 1 1 [.int .u8 (v k + 128)] rfl rfl ?c1 ?c2 ?c3 ?c4 ?c5 ?_)
          case c1 => exact cells_one_at (by simp) _ _
          case c2 => simp [Value.oneCell']
          case c3 => have := HLN.out; first | decide | (unfold maxLen; omega)
          case c4 => have := HLN.out; first | decide | omega
          case c5 => (simp; omega)
          intro v' w' hown2 hgrow _
          have HF9 := Lib.hid (((HFR.out.alloc hsz (.cells #[.bool true, .int .i64 (v k), .slice (Q k).1 (Q k).2.1 (Q k).2.2] 48)).alloc (Nat.le_trans hsz (by simp)) (.cells #[.int .u8 (v k + 128)] 5)).grown hgrow ((HOW.out.alloc (.cells #[.bool true, .int .i64 (v k), .slice (Q k).1 (Q k).2.1 (Q k).2.2] 48)).alloc (.cells #[.int .u8 (v k + 128)] 5)) (Nat.le_trans hsz (by simp; omega)))
          have HO9 := Lib.hid (show OwB w' w.heap.size v' (5 :: (n : Int) :: codL d v (k + 1)) from by
            have h := OwB.snoc (l := (5 :: (n : Int) :: codL d v k)) hown2 rfl
            rw [codL, HCB.out]; exact h)
          clear hown2 hgrow
          go_wp2_with fail
          go_roundw
          case rel => exact ⟨k + 1, hlt, by go_num, HO9.out, HF9.out⟩
          case measure => exact hms.out
      · obtain rfl : k = n := by omega
        have c0 := HXR.out.cell 0 (v := .int .i64 5) rfl
        have c1 := HXR.out.cell 1 (v := .int .i64 0) rfl
        have c2 := HXR.out.cell 2 (v := .slice (some ⟨b, off, none⟩) k c) rfl
        have c3 := HXR.out.cell 3 (v := .int .i64 p) rfl
        have hsz := HB.out.size
        have HLN := Lib.hid (show ((5 :: (k : Int) :: codL d v k)).length = k + 2 from by simp [codL_len])
        have e1 : IntKind.u8.wrap p = p % 256 := IntKind.wrap_u8 p
        have e2 : IntKind.u8.wrap (p / 256) = p / 256 := wrap_u8_le (by omega) (by omega)
        go_wp2_with (at_builtin; refine wpList_append_own _ rfl _ _ 24 rfl w.heap.size 5 i0 (.int .u8 0) 1 1 Tryz.underlying24 hi0 hz0 hz1 hz2 rfl (by decide) _ _ _ rfl (HOW.out.alloc (.cells #[.int .u8 (p % 256), .int .u8 (p / 256)] 5)) ⟨wr.heap.size, 0, none⟩ 2 2 [.int .u8 (p % 256), .int .u8 (p / 256)] rfl rfl ?c1 ?c2 ?c3 ?c4 ?c5 ?_)
        case c1 => exact cells_two_at rfl _ _ _
        case c2 => simp [Value.oneCell']
        case c3 => have := HLN.out; first | decide | (unfold maxLen; omega)
        case c4 => have := HLN.out; first | decide | omega
        case c5 => (simp; omega)
        intro v' w' hown2 hgrow _
        have HF9 := Lib.hid ((HFR.out.alloc hsz (.cells #[.int .u8 (p % 256), .int .u8 (p / 256)] 5)).grown hgrow (HOW.out.alloc (.cells #[.int .u8 (p % 256), .int .u8 (p / 256)] 5)) (Nat.le_trans hsz (by simp)))
        have HO9 := Lib.hid (show OwB w' w.heap.size v' (hdrB 5 k d v p) from OwB.snoc2 (l := (5 :: (k : Int) :: codL d v k)) hown2 rfl)
        clear hown2 hgrow
        go_wp2_with fail
        go_ret2
        exact ⟨⟨_, rfl, HO9.out⟩, HB2.out.trans HF9.out.below⟩
end Go.Proofs.YtjdiilkljgljkaaGreatDoor
namespace Go.Proofs.YtjdiilkljgljkaaGreatDoor
set_option linter.unusedVariables false
set_option linter.unusedSimpArgs false
open Go.RowKit Wd

theorem infoRg : (Tryz.prog.info? 48).map (fun i => (i.zero, i.size, i.bytes)) = some (some (.agg #[.bool false, .int .i64 0, .slice none 0 0]), 3, 40) := by kernel_rfl
/-- the cells of the first regions -/
def rgL (d : Nat → Bool) (v : Nat → Int) (Q : Nat → Option Addr × Nat × Nat) : Nat → List Value
  | 0 => []
  | k + 1 => rgL d v Q k ++ [.bool (d k), .int .i64 (v k), .slice (Q k).1 (Q k).2.1 (Q k).2.2]
theorem rgL_len (d : Nat → Bool) (v : Nat → Int) (Q : Nat → Option Addr × Nat × Nat) : ∀ k, (rgL d v Q k).length = k * 3
  | 0 => rfl
  | k + 1 => by rw [rgL, List.length_append, rgL_len d v Q k]; simp; omega
theorem rgL_get (d : Nat → Bool) (v : Nat → Int) (Q : Nat → Option Addr × Nat × Nat) : ∀ n i, i < n → (rgL d v Q n)[i * 3]? = some (.bool (d i)) ∧ (rgL d v Q n)[i * 3 + 1]? = some (.int .i64 (v i)) ∧ (rgL d v Q n)[i * 3 + 2]? = some (.slice (Q i).1 (Q i).2.1 (Q i).2.2)
  | 0, i, h => absurd h (by omega)
  | n + 1, i, h => by
    rw [rgL]
    rcases (by omega : i < n ∨ i = n) with h1 | rfl
    · have hl := rgL_len d v Q n
      rw [List.getElem?_append_left (by omega), List.getElem?_append_left (by omega), List.getElem?_append_left (by omega)]
      exact rgL_get d v Q n i h1
    · have hl := rgL_len d v Q i
      rw [List.getElem?_append_right (by omega), List.getElem?_append_right (by omega), List.getElem?_append_right (by omega), hl]
      simp
/-- a row of regions of the call's own -/
def OwR (w : World) (base : Nat) (x : Value) (n : Nat) (d : Nat → Bool) (v : Nat → Int) (Q : Nat → Option Addr × Nat × Nat) : Prop := w.ownsRow base 48 3 x n (rgL d v Q n)
theorem OwR.below {w w' : World} {base B n : Nat} {x : Value} {d : Nat → Bool} {v : Nat → Int} {Q : Nat → Option Addr × Nat × Nat} (h : OwR w base x n d v Q) (hb : Below B w w') (hB : w.heap.size ≤ B) : OwR w' base x n d v Q := by
  refine ⟨h.1, ?_⟩
  rcases h.2 with h | ⟨g, c, cur, e1, e2, e3, e4⟩
  · exact .inl h
  · exact .inr ⟨g, c, cur, e1, e2, (show Bx w' g cur _ from Bx.below e3 hb hB), e4⟩
theorem OwR.alloc {w : World} {base n : Nat} {x : Value} {d : Nat → Bool} {v : Nat → Int} {Q : Nat → Option Addr × Nat × Nat} (h : OwR w base x n d v Q) (o : Obj) : OwR (w.alloc o) base x n d v Q := h.below ((Below.refl w.heap.size w).alloc (Nat.le_refl _) o) (Nat.le_refl _)
theorem OwR.drew {w : World} {base n : Nat} {x : Value} {d : Nat → Bool} {v : Nat → Int} {Q : Nat → Option Addr × Nat × Nat} (h : OwR w base x n d v Q) : OwR w.drew base x n d v Q := h.below (Below.refl w.heap.size w).drew (Nat.le_refl _)
theorem OwR.snoc {w : World} {base n m : Nat} {x : Value} {d : Nat → Bool} {v : Nat → Int} {Q : Nat → Option Addr × Nat × Nat} (h : w.ownsRow base 48 3 x m (rgL d v Q n ++ [.bool (d n), .int .i64 (v n), .slice (Q n).1 (Q n).2.1 (Q n).2.2])) (hm : m = n + 1) : OwR w base x (n + 1) d v Q := by subst hm; exact h
theorem OwR.nil (w : World) (base : Nat) (d : Nat → Bool) (v : Nat → Int) (Q : Nat → Option Addr × Nat × Nat) : OwR w base (.slice none 0 0) 0 d v Q := ⟨rfl, .inl ⟨rfl, rfl⟩⟩
theorem OwR.rgs {w : World} {base n : Nat} {x : Value} {d : Nat → Bool} {v : Nat → Int} {Q : Nat → Option Addr × Nat × Nat} (h : OwR w base x n d v Q) (hn : 0 < n) (hi : ∀ i, i < n → IsI (v i)) : ∃ g c, x = .slice (some ⟨g, 0, none⟩) n c ∧ base ≤ g ∧ Rgs w (some ⟨g, 0, none⟩) n c d v Q ∧ ∃ cur, Bx w g cur 48 := by
  rcases h.2 with ⟨_, h0⟩ | ⟨g, c, cur, e1, e2, e3, e4, e5, e6, e7⟩
  · omega
  · subst e1
    refine ⟨g, c, rfl, e2, ⟨e4, e5, hi, fun _ => ⟨g, 0, rfl, (show Bx w g cur _ from e3).lt, fun i hi' => ?_⟩⟩, cur, e3⟩
    have hg := rgL_get d v Q n i hi'
    rw [Nat.zero_add, World.ownsRow.cellAt h _ (by omega), World.ownsRow.cellAt h _ (by omega), World.ownsRow.cellAt h _ (by omega)]
    exact hg
/-- a block of another type is kept when a row of regions grows -/
theorem bx_grownR {w w' : World} {base n b : Nat} {x : Value} {xs : List Value} {cs : Array Value} {t : TypeId} (h : Bx w b cs t) (ht : t ≠ 48) (hg : w.grownBy w' x.ownBlock) (ho : w.ownsRow base 48 3 x n xs) : Bx w' b cs t := by
  refine (hg.block b h.lt fun e => ?_).trans h
  obtain ⟨_, cur, h5⟩ := row_block ho e.symm
  have := (show w.heap[b]? = _ from h).symm.trans h5
  simp at this
  exact ht this.2
theorem below_grownR {w w' w0 : World} {base n B : Nat} {x : Value} {xs : List Value} (h : Below B w0 w) (hs : B ≤ w.heap.size) (hB : B ≤ base) (hg : w.grownBy w' x.ownBlock) (ho : w.ownsRow base 48 3 x n xs) : Below B w0 w' :=
  h.grown hg hs (fun k e => Nat.le_trans hB (row_block ho e).1)
theorem OwR.setOther {w : World} {base b i n : Nat} {x y : Value} {d : Nat → Bool} {v : Nat → Int} {Q : Nat → Option Addr × Nat × Nat} {cs : Array Value} {t : TypeId} (h : OwR w base x n d v Q) (hb : Bx w b cs t) (ht : t ≠ 48) : OwR (w.setCell ⟨b, i, none⟩ y) base x n d v Q := by
  refine ⟨h.1, ?_⟩
  rcases h.2 with h | ⟨g, c, cur, e1, e2, e3, e4⟩
  · exact .inl h
  · refine .inr ⟨g, c, cur, e1, e2, (Bx.other e3 _ fun e => ?_), e4⟩
    obtain rfl : g = b := e
    have := (show w.heap[g]? = _ from hb).symm.trans e3
    simp at this
    exact ht this.2
theorem Rgs.setFar {w : World} {g off n c k i : Nat} {x : Value} {d : Nat → Bool} {v : Nat → Int} {Q : Nat → Option Addr × Nat × Nat} (h : Rgs w (some ⟨g, off, none⟩) n c d v Q) (hne : g ≠ k) : Rgs (w.setCell ⟨k, i, none⟩ x) (some ⟨g, off, none⟩) n c d v Q :=
  ⟨h.cap, h.max, h.isi, fun hn => by
    obtain ⟨b, o, e, hlt, hc⟩ := h.at_ hn
    obtain ⟨rfl, rfl⟩ : g = b ∧ off = o := by simpa using e
    refine ⟨g, off, rfl, by simpa using hlt, fun j hj => ⟨keep_set (hc j hj).1 hne, keep_set (hc j hj).2.1 hne, keep_set (hc j hj).2.2 hne⟩⟩⟩
theorem bx_ne {w : World} {a b : Nat} {cs cs' : Array Value} {t t' : TypeId} (h : Bx w a cs t) (h' : Bx w b cs' t') (ht : t ≠ t') : a ≠ b := by
  rintro rfl
  have := (show w.heap[a]? = _ from h).symm.trans (show w.heap[a]? = _ from h')
  simp at this
  exact ht this.2
theorem cells_three_at {w : World} {b : Nat} (hb : b = w.heap.size) (x y z : Value) (t : TypeId) : ∀ j u, [x, y, z][j]? = some u → (w.alloc (.cells #[x, y, z] t)).cell? ((⟨b, 0, none⟩ : Addr).add j) = some u := by
  subst hb
  intro j u h
  have hb : Bx (w.alloc (.cells #[x, y, z] t)) w.heap.size #[x, y, z] t := Bx.new _ _ _
  match j, h with
  | 0, h => exact hb.cell 0 (v := u) (by simpa using h)
  | 1, h => exact hb.cell 1 (v := u) (by simpa using h)
  | 2, h => exact hb.cell 2 (v := u) (by simpa using h)
theorem codB_ge {d : Nat → Bool} {v : Nat → Int} {k : Nat} (h0 : 0 ≤ v k) (h1 : v k ≤ 64) : decide (128 ≤ codB d v k) = d k := by
  unfold codB; cases d k <;> simp <;> omega
theorem codB_clr {d : Nat → Bool} {v : Nat → Int} {k : Nat} (h0 : 0 ≤ v k) (h1 : v k ≤ 64) : bits .andNot .u8 (codB d v k) 128 = v k := by
  have h : ∀ m : Fin 65, bits .andNot .u8 (((m : Nat) : Int) + 128) 128 = ((m : Nat) : Int) ∧ bits .andNot .u8 ((m : Nat) : Int) 128 = ((m : Nat) : Int) := by decide
  have := h ⟨(v k).toNat, by omega⟩
  rw [show (((v k).toNat : Nat) : Int) = v k by omega] at this
  unfold codB; cases d k
  · exact this.2
  · exact this.1
theorem codL_get (d : Nat → Bool) (v : Nat → Int) : ∀ n i, i < n → (codL d v n)[i]? = some (codB d v i)
  | 0, i, h => absurd h (by omega)
  | n + 1, i, h => by
    rw [codL]
    have hl := codL_len d v n
    rcases (by omega : i < n ∨ i = n) with h1 | rfl
    · rw [List.getElem?_append_left (by omega)]; exact codL_get d v n i h1
    · rw [List.getElem?_append_right (by omega), hl]; simp
end Go.Proofs.YtjdiilkljgljkaaGreatDoor
namespace Go.Proofs.YtjdiilkljgljkaaGreatDoor
set_option linter.unusedVariables false
set_option linter.unusedSimpArgs false
open Go.RowKit Wd


def Q0 : Nat → Option Addr × Nat × Nat := fun _ => (none, 0, 0)
def hlR (op : Int) (n : Nat) : Int := if op = 4 then 2 + n else 4 + n
set_option maxRecDepth 100000 in
theorem or_pts {p : Int} (h0 : 0 ≤ p) (h1 : p ≤ 4096) : bits .or .i64 (p % 256) (p / 256 * 256) = p := by
  have h : ∀ m : Fin 4097, bits .or .i64 (((m : Nat) : Int) % 256) (((m : Nat) : Int) / 256 * 256) = ((m : Nat) : Int) := by decide +kernel
  have := h ⟨p.toNat, by omega⟩
  rw [show ((p.toNat : Nat) : Int) = p by omega] at this
  exact this
set_option maxHeartbeats 4000000 in
set_option maxRecDepth 100000 in
theorem header_ParseR (op p : Int) (hop : OpP op p) (n : Nat) (d : Nat → Bool) (v : Nat → Int) (ho : OkK n v) (rest : List Int) (A : Option Addr) (N c : Nat) (w : World) (hN : (hdrB op n d v p ++ rest).length = N) (hb : By w A c (hdrB op n d v p ++ rest)) :
    Calls Tryz.prog 78 #[.slice A N c] w fun e w' => (∃ g rc, e = .returned (.tuple #[.agg #[.int .i64 op, .int .i64 0, .slice (some ⟨g, 0, none⟩) n rc, .int .i64 p], .int .i64 (hlR op n), .int .i64 0]) ∧ w.heap.size ≤ g ∧ Rgs w' (some ⟨g, 0, none⟩) n rc d v Q0) ∧ Below w.heap.size w w' := by
  obtain ⟨i0, hi0, hz0, hz1, hz2⟩ := info_parts infoRg
  have HO := Lib.hid ho
  have HOP := hop
  have h1 := ho.pos
  have h2 := ho.le
  obtain ⟨b, off, rfl, hbl, hcb⟩ := hb.at_ (by simp [hdrB])
  have hmx := hb.cap; have hm2 := hb.max
  rw [hN] at hmx
  unfold maxLen at hm2
  have HBL := Lib.hid hbl; clear hb ho
  rcases hop with ⟨h, h'⟩ | ⟨h, hp1, hp2⟩
  · subst h; subst h'
    have HN := Lib.hid hN
    have hn2 : (rest.length + n + 2 : Nat) = N := by rw [← hN]; simp [hdrB, ptsN, codL_len]; omega
    have q0 := hcb 0 4 (by simp [hdrB])
    have q1 := hcb 1 (n : Int) (by simp [hdrB])
    have HQC := Lib.hid (show ∀ i, i < n → w.cell? ⟨b, off + 2 + i, none⟩ = some (.int .u8 (codB d v i)) from fun i hi => by
      have := hcb (i + 2) (codB d v i) (by simp [hdrB]; rw [List.getElem?_append_left (by rw [codL_len]; omega)]; exact codL_get d v n i hi)
      rw [show off + 2 + i = off + (i + 2) by omega]; exact this)
    rw [Nat.add_zero] at q0
    clear hcb hN
    go_enter Tryz.func78, Tryz.ntmps78
    go_wp2_with fail
    refine wp_scope_straight ?_
    go_wp2_with fail
    clear q0 q1
    have HZ0 := Lib.hid (show Bx ((w.alloc (.cells #[.int .i64 0, .int .i64 0, .slice none 0 0, .int .i64 0] 28)).alloc (.cells #[.int .i64 4, .int .i64 0, .slice none 0 0, .int .i64 0] 28)) w.heap.size #[.int .i64 0, .int .i64 0, .slice none 0 0, .int .i64 0] 28 from (Bx.new _ _ _).alloc _)
    have HZ1 := Lib.hid (show Bx ((w.alloc (.cells #[.int .i64 0, .int .i64 0, .slice none 0 0, .int .i64 0] 28)).alloc (.cells #[.int .i64 4, .int .i64 0, .slice none 0 0, .int .i64 0] 28)) (w.heap.size + 1) #[.int .i64 4, .int .i64 0, .slice none 0 0, .int .i64 0] 28 from bx_new (by simp))
    have HB1 := Lib.hid (show Below w.heap.size w ((w.alloc (.cells #[.int .i64 0, .int .i64 0, .slice none 0 0, .int .i64 0] 28)).alloc (.cells #[.int .i64 4, .int .i64 0, .slice none 0 0, .int .i64 0] 28)) from below_al (below_al below_rf))
    generalize ((w.alloc (.cells #[.int .i64 0, .int .i64 0, .slice none 0 0, .int .i64 0] 28)).alloc (.cells #[.int .i64 4, .int .i64 0, .slice none 0 0, .int .i64 0] 28)) = w1 at *
    rw [show 2 + n - 2 = n from by omega]
    go_loopw [63] (fun ir wr => ∃ (k : Nat) (vr : Value), k ≤ n ∧ ir = .int .i64 (k : Int) ∧ Bx wr (w.heap.size + 1) #[.int .i64 4, .int .i64 0, vr, .int .i64 0] 28 ∧ OwR wr w.heap.size vr k d v Q0 ∧ Bx wr w.heap.size #[.int .i64 0, .int .i64 0, .slice none 0 0, .int .i64 0] 28 ∧ Below w.heap.size w wr) (fun i _ => n - (intOf i).toNat)
    case atStart => exact ⟨0, _, by omega, rfl, HZ1.out, OwR.nil _ _ _ _ _, HZ0.out, HB1.out⟩
    case round =>
      obtain ⟨k, vr, hk, rfl, hx, how, hz, hb⟩ := hrel
      have HB := Lib.hid hb; have HXR := Lib.hid hx; have HZR := Lib.hid hz; have HOW := Lib.hid how; clear hb hx hz how
      by_cases hlt : k < n
      · have qk : wr.cell? ⟨b, off + 2 + k, none⟩ = some (.int .u8 (codB d v k)) := (HB.out.cell (p := ⟨b, off + 2 + k, none⟩) HBL.out).trans (HQC.out k hlt)
        have c2 := HXR.out.cell 2 (v := vr) rfl
        have HRG := Lib.hid (HO.out.range hlt)
        have eg := codB_ge (d := d) HRG.out.1 HRG.out.2.1
        have ec := codB_clr (d := d) HRG.out.1 HRG.out.2.1
        have ew : IntKind.i64.wrap (v k) = v k := by have := HRG.out; rw [IntKind.wrap_i64]; omega
        have hsz := HB.out.size
        have hxlt := HXR.out.lt
        have hms := Lib.hid (show n - (intOf (.int .i64 ((k : Int) + 1))).toNat < n - (intOf (.int .i64 (k : Int))).toNat from by simp [intOf]; omega)
        go_wp2_with (at_builtin; refine wpList_append_own _ rfl _ _ 26 rfl w.heap.size 48 i0 (.agg #[.bool false, .int .i64 0, .slice none 0 0]) 3 40 Tryz.underlying26 hi0 hz0 hz1 hz2 rfl (by decide) _ _ _ rfl (HOW.out.alloc (.cells #[.bool (d k), .int .i64 (v k), .slice none 0 0] 48)) ⟨wr.heap.size, 0, none⟩ 1 1 [.bool (d k), .int .i64 (v k), .slice none 0 0] rfl rfl ?c1 ?c2 ?c3 ?c4 ?c5 ?_)
        case c1 => exact cells_three_at (by simp) _ _ _ _
        case c2 => simp [Value.oneCell']
        case c3 => skip; unfold maxLen; omega
        case c4 => skip; omega
        case c5 => (simp; omega)
        intro v' w' hown2 hgrow _
        have HX9 := Lib.hid (show Bx w' (w.heap.size + 1) #[.int .i64 4, .int .i64 0, vr, .int .i64 0] 28 from bx_grownR (HXR.out.alloc (.cells #[.bool (d k), .int .i64 (v k), .slice none 0 0] 48)) (by decide) hgrow (HOW.out.alloc (.cells #[.bool (d k), .int .i64 (v k), .slice none 0 0] 48)))
        have HZ9 := Lib.hid (show Bx w' w.heap.size #[.int .i64 0, .int .i64 0, .slice none 0 0, .int .i64 0] 28 from bx_grownR (HZR.out.alloc (.cells #[.bool (d k), .int .i64 (v k), .slice none 0 0] 48)) (by decide) hgrow (HOW.out.alloc (.cells #[.bool (d k), .int .i64 (v k), .slice none 0 0] 48)))
        have HB9 := Lib.hid (show Below w.heap.size w w' from below_grownR (HB.out.alloc hsz (.cells #[.bool (d k), .int .i64 (v k), .slice none 0 0] 48)) (Nat.le_trans hsz (by simp)) (Nat.le_refl _) hgrow (HOW.out.alloc (.cells #[.bool (d k), .int .i64 (v k), .slice none 0 0] 48)))
        obtain ⟨g2, cap2, rfl, -, -⟩ := hown2.form (by omega)
        have HO9 := Lib.hid (show OwR w' w.heap.size (.slice (some ⟨g2, 0, none⟩) (k + 1) cap2) (k + 1) d v Q0 from OwR.snoc hown2 rfl)
        clear hown2 hgrow c2 qk eg ec ew hsz hxlt HXR HZR HB HOW
        have c2 := HX9.out.cell 2 (v := vr) rfl
        have z2 := HX9.out.free 2
        go_wp2_with fail
        go_roundw
        case rel =>
          exact ⟨k + 1, _, hlt, by go_num, HX9.out.set 2 _, HO9.out.setOther HX9.out (by decide), HZ9.out.other (a := ⟨w.heap.size + 1, 2, none⟩) _ (by simp), below_st (Nat.le_succ _) HB9.out⟩
        case measure => exact hms.out
      · obtain rfl : k = n := by omega
        obtain ⟨g, rc, rfl, hg, hrg, cur, hcur⟩ := HOW.out.rgs (by omega) (fun i hi => by have := HO.out.range hi; unfold IsI; omega)
        have HRG := Lib.hid hrg; have HG := Lib.hid hg; have HGN := Lib.hid (show g ≠ w.heap.size ∧ g ≠ w.heap.size + 1 from ⟨bx_ne hcur HZR.out (by decide), bx_ne hcur HXR.out (by decide)⟩); clear hg hrg HOW hcur
        have c0 := HXR.out.cell 0 (v := .int .i64 4) rfl; have c1 := HXR.out.cell 1 (v := .int .i64 0) rfl; have c2 := HXR.out.cell 2 (v := .slice (some ⟨g, 0, none⟩) k rc) rfl; have c3 := HXR.out.cell 3 (v := .int .i64 0) rfl
        go_wp2_with fail
        clear c0 c1 c2 c3
        refine (contains_no 110 (some ⟨g, 0, none⟩) k rc d v Q0 (by omega) (noKP HO.out) _ HRG.out).mono ?_
        rintro e w5 ⟨rfl, B⟩
        have HX5 := Lib.hid (HXR.out.below B (Nat.le_refl _)); have HZ5 := Lib.hid (HZR.out.below B (Nat.le_refl _)); have HR5 := Lib.hid (HRG.out.below B (Nat.le_refl _)); have HB5 := Lib.hid (HB.out.trans (B.mono HB.out.size))
        clear B HXR HZR HRG HB
        have c0 := HX5.out.cell 0 (v := .int .i64 4) rfl; have c1 := HX5.out.cell 1 (v := .int .i64 0) rfl; have c2 := HX5.out.cell 2 (v := .slice (some ⟨g, 0, none⟩) k rc) rfl; have c3 := HX5.out.cell 3 (v := .int .i64 0) rfl
        have y0 := HZ5.out.free 0; have y1 := HZ5.out.free 1; have y2 := HZ5.out.free 2; have y3 := HZ5.out.free 3
        have x0 := HZ5.out.cell 0 (v := .int .i64 0) rfl; have x1 := HZ5.out.cell 1 (v := .int .i64 0) rfl; have x2 := HZ5.out.cell 2 (v := .slice none 0 0) rfl; have x3 := HZ5.out.cell 3 (v := .int .i64 0) rfl
        have ea : IntKind.i64.wrap (2 + (k : Int)) = 2 + (k : Int) := by rw [IntKind.wrap_i64]; omega
        go_wp2_with fail
        have HF := Lib.hid (bx_set4 (v0 := .int .i64 4) (v1 := .int .i64 0) (v2 := .slice (some ⟨g, 0, none⟩) k rc) (v3 := .int .i64 0) HZ5.out)
        have r0 := HF.out.cell 0 (v := .int .i64 4) rfl; have r1 := HF.out.cell 1 (v := .int .i64 0) rfl; have r2 := HF.out.cell 2 (v := .slice (some ⟨g, 0, none⟩) k rc) rfl; have r3 := HF.out.cell 3 (v := .int .i64 0) rfl
        have HR9 := Lib.hid ((((HR5.out.setFar (i := 0) (x := .int .i64 4) HGN.out.1).setFar (i := 1) (x := .int .i64 0) HGN.out.1).setFar (i := 2) (x := .slice (some ⟨g, 0, none⟩) k rc) HGN.out.1).setFar (i := 3) (x := .int .i64 0) HGN.out.1)
        have HB9 := Lib.hid (show Below w.heap.size w ((((w5.setCell ⟨w.heap.size, 0, none⟩ (.int .i64 4)).setCell ⟨w.heap.size, 1, none⟩ (.int .i64 0)).setCell ⟨w.heap.size, 2, none⟩ (.slice (some ⟨g, 0, none⟩) k rc)).setCell ⟨w.heap.size, 3, none⟩ (.int .i64 0)) from below_st (Nat.le_refl _) (below_st (Nat.le_refl _) (below_st (Nat.le_refl _) (below_st (Nat.le_refl _) HB5.out))))
        clear c0 c1 c2 c3 x0 x1 x2 x3 y0 y1 y2 y3
        generalize ((((w5.setCell ⟨w.heap.size, 0, none⟩ (.int .i64 4)).setCell ⟨w.heap.size, 1, none⟩ (.int .i64 0)).setCell ⟨w.heap.size, 2, none⟩ (.slice (some ⟨g, 0, none⟩) k rc)).setCell ⟨w.heap.size, 3, none⟩ (.int .i64 0)) = w9 at *
        rw [Exit.noGoto_ret]
        refine bodyPost_ret (v := .tuple #[.agg #[.int .i64 4, .int .i64 0, .slice (some ⟨g, 0, none⟩) k rc, .int .i64 0], .int .i64 (2 + k), .int .i64 0]) (by simp [results, Tryz.results78, go_sem, r0, r1, r2, r3]) rfl ⟨⟨g, rc, by simp [hlR], HG.out, HR9.out⟩, HB9.out⟩
  · subst h
    have HN := Lib.hid hN
    have hn2 : (rest.length + n + 4 : Nat) = N := by rw [← hN]; simp [hdrB, ptsN, codL_len]; omega
    have q0 := hcb 0 5 (by simp [hdrB])
    have q1 := hcb 1 (n : Int) (by simp [hdrB])
    have HQC := Lib.hid (show ∀ i, i < n → w.cell? ⟨b, off + 2 + i, none⟩ = some (.int .u8 (codB d v i)) from fun i hi => by
      have := hcb (i + 2) (codB d v i) (by simp [hdrB]; rw [List.getElem?_append_left (by rw [codL_len]; omega)]; exact codL_get d v n i hi)
      rw [show off + 2 + i = off + (i + 2) by omega]; exact this)
    have HQ5 := Lib.hid (show w.cell? ⟨b, off + 2 + n, none⟩ = some (.int .u8 (p % 256)) ∧ w.cell? ⟨b, off + 3 + n, none⟩ = some (.int .u8 (p / 256)) from by
      have ha := hcb (n + 2) (p % 256) (by simp [hdrB, ptsN]; rw [List.getElem?_append_right (by rw [codL_len]; omega), codL_len]; simp)
      have hb := hcb (n + 3) (p / 256) (by simp [hdrB, ptsN]; rw [List.getElem?_append_right (by rw [codL_len]; omega), codL_len, show n + 1 - n = 1 by omega]; rfl)
      rw [show off + 2 + n = off + (n + 2) by omega, show off + 3 + n = off + (n + 3) by omega]; exact ⟨ha, hb⟩)
    rw [Nat.add_zero] at q0
    clear hcb hN
    go_enter Tryz.func78, Tryz.ntmps78
    go_wp2_with fail
    refine wp_scope_straight ?_
    go_wp2_with fail
    clear q0 q1
    have HZ0 := Lib.hid (show Bx ((w.alloc (.cells #[.int .i64 0, .int .i64 0, .slice none 0 0, .int .i64 0] 28)).alloc (.cells #[.int .i64 5, .int .i64 0, .slice none 0 0, .int .i64 0] 28)) w.heap.size #[.int .i64 0, .int .i64 0, .slice none 0 0, .int .i64 0] 28 from (Bx.new _ _ _).alloc _)
    have HZ1 := Lib.hid (show Bx ((w.alloc (.cells #[.int .i64 0, .int .i64 0, .slice none 0 0, .int .i64 0] 28)).alloc (.cells #[.int .i64 5, .int .i64 0, .slice none 0 0, .int .i64 0] 28)) (w.heap.size + 1) #[.int .i64 5, .int .i64 0, .slice none 0 0, .int .i64 0] 28 from bx_new (by simp))
    have HB1 := Lib.hid (show Below w.heap.size w ((w.alloc (.cells #[.int .i64 0, .int .i64 0, .slice none 0 0, .int .i64 0] 28)).alloc (.cells #[.int .i64 5, .int .i64 0, .slice none 0 0, .int .i64 0] 28)) from below_al (below_al below_rf))
    generalize ((w.alloc (.cells #[.int .i64 0, .int .i64 0, .slice none 0 0, .int .i64 0] 28)).alloc (.cells #[.int .i64 5, .int .i64 0, .slice none 0 0, .int .i64 0] 28)) = w1 at *
    rw [show 2 + n - 2 = n from by omega]
    go_loopw [63] (fun ir wr => ∃ (k : Nat) (vr : Value), k ≤ n ∧ ir = .int .i64 (k : Int) ∧ Bx wr (w.heap.size + 1) #[.int .i64 5, .int .i64 0, vr, .int .i64 0] 28 ∧ OwR wr w.heap.size vr k d v Q0 ∧ Bx wr w.heap.size #[.int .i64 0, .int .i64 0, .slice none 0 0, .int .i64 0] 28 ∧ Below w.heap.size w wr) (fun i _ => n - (intOf i).toNat)
    case atStart => exact ⟨0, _, by omega, rfl, HZ1.out, OwR.nil _ _ _ _ _, HZ0.out, HB1.out⟩
    case round =>
      obtain ⟨k, vr, hk, rfl, hx, how, hz, hb⟩ := hrel
      have HB := Lib.hid hb; have HXR := Lib.hid hx; have HZR := Lib.hid hz; have HOW := Lib.hid how; clear hb hx hz how
      by_cases hlt : k < n
      · have qk : wr.cell? ⟨b, off + 2 + k, none⟩ = some (.int .u8 (codB d v k)) := (HB.out.cell (p := ⟨b, off + 2 + k, none⟩) HBL.out).trans (HQC.out k hlt)
        have c2 := HXR.out.cell 2 (v := vr) rfl
        have HRG := Lib.hid (HO.out.range hlt)
        have eg := codB_ge (d := d) HRG.out.1 HRG.out.2.1
        have ec := codB_clr (d := d) HRG.out.1 HRG.out.2.1
        have ew : IntKind.i64.wrap (v k) = v k := by have := HRG.out; rw [IntKind.wrap_i64]; omega
        have hsz := HB.out.size
        have hxlt := HXR.out.lt
        have hms := Lib.hid (show n - (intOf (.int .i64 ((k : Int) + 1))).toNat < n - (intOf (.int .i64 (k : Int))).toNat from by simp [intOf]; omega)
        go_wp2_with (at_builtin; refine wpList_append_own _ rfl _ _ 26 rfl w.heap.size 48 i0 (.agg #[.bool false, .int .i64 0, .slice none 0 0]) 3 40 Tryz.underlying26 hi0 hz0 hz1 hz2 rfl (by decide) _ _ _ rfl (HOW.out.alloc (.cells #[.bool (d k), .int .i64 (v k), .slice none 0 0] 48)) ⟨wr.heap.size, 0, none⟩ 1 1 [.bool (d k), .int .i64 (v k), .slice none 0 0] rfl rfl ?c1 ?c2 ?c3 ?c4 ?c5 ?_)
        case c1 => exact cells_three_at (by simp) _ _ _ _
        case c2 => simp [Value.oneCell']
        case c3 => skip; unfold maxLen; omega
        case c4 => skip; omega
        case c5 => (simp; omega)
        intro v' w' hown2 hgrow _
        have HX9 := Lib.hid (show Bx w' (w.heap.size + 1) #[.int .i64 5, .int .i64 0, vr, .int .i64 0] 28 from bx_grownR (HXR.out.alloc (.cells #[.bool (d k), .int .i64 (v k), .slice none 0 0] 48)) (by decide) hgrow (HOW.out.alloc (.cells #[.bool (d k), .int .i64 (v k), .slice none 0 0] 48)))
        have HZ9 := Lib.hid (show Bx w' w.heap.size #[.int .i64 0, .int .i64 0, .slice none 0 0, .int .i64 0] 28 from bx_grownR (HZR.out.alloc (.cells #[.bool (d k), .int .i64 (v k), .slice none 0 0] 48)) (by decide) hgrow (HOW.out.alloc (.cells #[.bool (d k), .int .i64 (v k), .slice none 0 0] 48)))
        have HB9 := Lib.hid (show Below w.heap.size w w' from below_grownR (HB.out.alloc hsz (.cells #[.bool (d k), .int .i64 (v k), .slice none 0 0] 48)) (Nat.le_trans hsz (by simp)) (Nat.le_refl _) hgrow (HOW.out.alloc (.cells #[.bool (d k), .int .i64 (v k), .slice none 0 0] 48)))
        obtain ⟨g2, cap2, rfl, -, -⟩ := hown2.form (by omega)
        have HO9 := Lib.hid (show OwR w' w.heap.size (.slice (some ⟨g2, 0, none⟩) (k + 1) cap2) (k + 1) d v Q0 from OwR.snoc hown2 rfl)
        clear hown2 hgrow c2 qk eg ec ew hsz hxlt HXR HZR HB HOW
        have c2 := HX9.out.cell 2 (v := vr) rfl
        have z2 := HX9.out.free 2
        go_wp2_with fail
        go_roundw
        case rel =>
          exact ⟨k + 1, _, hlt, by go_num, HX9.out.set 2 _, HO9.out.setOther HX9.out (by decide), HZ9.out.other (a := ⟨w.heap.size + 1, 2, none⟩) _ (by simp), below_st (Nat.le_succ _) HB9.out⟩
        case measure => exact hms.out
      · obtain rfl : k = n := by omega
        obtain ⟨g, rc, rfl, hg, hrg, cur, hcur⟩ := HOW.out.rgs (by omega) (fun i hi => by have := HO.out.range hi; unfold IsI; omega)
        have HRG := Lib.hid hrg; have HG := Lib.hid hg; have HGN := Lib.hid (show g ≠ w.heap.size ∧ g ≠ w.heap.size + 1 from ⟨bx_ne hcur HZR.out (by decide), bx_ne hcur HXR.out (by decide)⟩); clear hg hrg HOW hcur
        have c0 := HXR.out.cell 0 (v := .int .i64 5) rfl; have c1 := HXR.out.cell 1 (v := .int .i64 0) rfl; have c2 := HXR.out.cell 2 (v := .slice (some ⟨g, 0, none⟩) k rc) rfl; have c3 := HXR.out.cell 3 (v := .int .i64 0) rfl
        go_wp2_with fail
        clear c0 c1 c2 c3
        refine (contains_no 110 (some ⟨g, 0, none⟩) k rc d v Q0 (by omega) (noKP HO.out) _ HRG.out).mono ?_
        rintro e w5 ⟨rfl, B⟩
        have HX5 := Lib.hid (HXR.out.below B (Nat.le_refl _)); have HZ5 := Lib.hid (HZR.out.below B (Nat.le_refl _)); have HR5 := Lib.hid (HRG.out.below B (Nat.le_refl _)); have HB5 := Lib.hid (HB.out.trans (B.mono HB.out.size))
        clear B HXR HZR HRG HB
        have c0 := HX5.out.cell 0 (v := .int .i64 5) rfl; have c1 := HX5.out.cell 1 (v := .int .i64 0) rfl; have c2 := HX5.out.cell 2 (v := .slice (some ⟨g, 0, none⟩) k rc) rfl; have c3 := HX5.out.cell 3 (v := .int .i64 0) rfl
        have y0 := HZ5.out.free 0; have y1 := HZ5.out.free 1; have y2 := HZ5.out.free 2; have y3 := HZ5.out.free 3
        have x0 := HZ5.out.cell 0 (v := .int .i64 0) rfl; have x1 := HZ5.out.cell 1 (v := .int .i64 0) rfl; have x2 := HZ5.out.cell 2 (v := .slice none 0 0) rfl; have x3 := HZ5.out.cell 3 (v := .int .i64 0) rfl
        have ea : IntKind.i64.wrap (2 + (k : Int)) = 2 + (k : Int) := by rw [IntKind.wrap_i64]; omega
        go_wp2_with fail
        have HQ6 := Lib.hid (show w5.cell? ⟨b, off + (2 + k), none⟩ = some (.int .u8 (p % 256)) ∧ w5.cell? ⟨b, off + (3 + k), none⟩ = some (.int .u8 (p / 256)) from by
          rw [show off + (2 + k) = off + 2 + k by omega, show off + (3 + k) = off + 3 + k by omega]
          exact ⟨(HB5.out.cell (p := ⟨b, off + 2 + k, none⟩) HBL.out).trans HQ5.out.1, (HB5.out.cell (p := ⟨b, off + 3 + k, none⟩) HBL.out).trans HQ5.out.2⟩)
        clear c0 c1 c2 c3 x0 x1 x2 x3 y0 y1 y2 y3
        have t2 : (2 + (k : Int)).toNat = 2 + k := by omega
        have t3 : (3 + (k : Int)).toNat = 3 + k := by omega
        have eb : IntKind.i64.wrap (3 + (k : Int)) = 3 + (k : Int) := by rw [IntKind.wrap_i64]; omega
        have i2 : 0 ≤ 2 + (k : Int) := by omega
        have j2 : 2 + (k : Int) < N := by omega
        have i3 : 0 ≤ 3 + (k : Int) := by omega
        have j3 : 3 + (k : Int) < N := by omega
        have w1' : IntKind.i64.wrap (p % 256) = p % 256 := by rw [IntKind.wrap_i64]; omega
        have w2' : IntKind.i64.wrap (p / 256) = p / 256 := by rw [IntKind.wrap_i64]; omega
        have w3' : IntKind.i64.wrap (p / 256 * 256) = p / 256 * 256 := by rw [IntKind.wrap_i64]; omega
        have w4' := or_pts (p := p) (by omega) hp2
        have HW5 := Lib.hid (show b < w5.heap.size from Nat.lt_of_lt_of_le HBL.out HB5.out.size)
        refine (wpIn_wide (n := 0)).1 ?_
        refine wpIn_region_any (by kernel_rfl) ?_
        change wpAnyIn _ _ _ _ _ _ _ _ _ (World.drew _)
        have RB5 := Lib.hid (below_drew0 w5)
        refine wpAnyIn_tail WideF.wide (fun a b => Below a.heap.size a b) (fun _ => below_rf) (fun _ _ _ h k => below_tr h k) [⟨0, 93, fun z_ _ => z_ = .slice (some ⟨b, off, none⟩) N c⟩, ⟨1, 94, fun z_ _ => z_ = .int .i64 (k)⟩, ⟨2, 95, fun z_ _ => z_ = .int .i64 (2 + (k : Int))⟩, ⟨3, 96, fun z_ _ => z_ = .pointer (some ⟨b, off + (2 + k), none⟩)⟩, ⟨4, 97, fun z_ _ => z_ = .int .u8 (p % 256)⟩, ⟨5, 98, fun z_ _ => z_ = .int .i64 (p % 256)⟩, ⟨6, 99, fun z_ _ => z_ = .slice (some ⟨b, off, none⟩) N c⟩, ⟨7, 100, fun z_ _ => z_ = .int .i64 (k)⟩, ⟨8, 101, fun z_ _ => z_ = .int .i64 (3 + (k : Int))⟩, ⟨9, 102, fun z_ _ => z_ = .pointer (some ⟨b, off + (3 + k), none⟩)⟩, ⟨10, 103, fun z_ _ => z_ = .int .u8 (p / 256)⟩, ⟨11, 104, fun z_ _ => z_ = .int .i64 (p / 256)⟩, ⟨12, 105, fun z_ _ => z_ = .int .i64 (p / 256 * 256)⟩, ⟨13, 106, fun z_ _ => z_ = .int .i64 (p)⟩] 14 (by kernel_rfl) ?_ ?_ ?_
        · refine ⟨?_, ?_, ?_, ?_, ?_, ?_, ?_, ?_, ?_, ?_, ?_, ?_, ?_, ?_, trivial⟩
          all_goals (intro x w w' hb h; first | exact h | (obtain ⟨b_, h1, h2⟩ := h; exact ⟨b_, h1, h2.below hb (Nat.le_refl _)⟩))
        · refine ⟨?_, ?_, ?_, ?_, ?_, ?_, ?_, ?_, ?_, ?_, ?_, ?_, ?_, ?_, trivial⟩
          · intro a wz K hb ht hd hK
            have hbw := Lib.hid (below_tr RB5.out hb); clear hb
            have hx0 := (ht 0 rfl).trans rfl
            have es0 : a.tmps.getD 0 undef = _ := getD_of hx0; clear hx0
            clear ht hd
            have HK := Lib.hid hK; clear hK
            refine wpOpP_step (by simp only [List.getElem?_toArray, List.getElem?_cons_succ, List.getElem?_cons_zero]; rfl) (fun K' hK' => ?_)
            have HK' := Lib.hid hK'; clear hK'
            go_simp
            exact HK'.out _ _ (HK.out _ _ below_rf rfl)
          · intro a wz K hb ht hd hK
            have hbw := Lib.hid (below_tr RB5.out hb); clear hb
            have hx6 := (ht 6 rfl).trans rfl
            have es6 : a.tmps.getD 6 undef = _ := getD_of hx6; clear hx6
            clear ht hd
            have HK := Lib.hid hK; clear hK
            refine wpOpP_step (by simp only [List.getElem?_toArray, List.getElem?_cons_succ, List.getElem?_cons_zero]; rfl) (fun K' hK' => ?_)
            have HK' := Lib.hid hK'; clear hK'
            go_simp
            exact HK'.out _ _ (HK.out _ _ below_rf rfl)
          · intro a wz K hb ht hd hK
            have hbw := Lib.hid (below_tr RB5.out hb); clear hb
            obtain ⟨x94, hx94, hp94⟩ := hd 1 _ rfl (by kernel_rfl)
            obtain rfl := hp94
            have es94 : a.tmps.getD 94 undef = _ := getD_of hx94; clear hx94
            clear ht hd
            have HK := Lib.hid hK; clear hK
            refine wpOpP_step (by simp only [List.getElem?_toArray, List.getElem?_cons_succ, List.getElem?_cons_zero]; rfl) (fun K' hK' => ?_)
            have HK' := Lib.hid hK'; clear hK'
            go_simp
            exact HK'.out _ _ (HK.out _ _ below_rf rfl)
          · intro a wz K hb ht hd hK
            have hbw := Lib.hid (below_tr RB5.out hb); clear hb
            obtain ⟨x93, hx93, hp93⟩ := hd 0 _ rfl (by kernel_rfl)
            obtain rfl := hp93
            have es93 : a.tmps.getD 93 undef = _ := getD_of hx93; clear hx93
            obtain ⟨x95, hx95, hp95⟩ := hd 2 _ rfl (by kernel_rfl)
            obtain rfl := hp95
            have es95 : a.tmps.getD 95 undef = _ := getD_of hx95; clear hx95
            clear ht hd
            have HK := Lib.hid hK; clear hK
            refine wpOpP_step (by simp only [List.getElem?_toArray, List.getElem?_cons_succ, List.getElem?_cons_zero]; rfl) (fun K' hK' => ?_)
            have HK' := Lib.hid hK'; clear hK'
            go_simp
            exact HK'.out _ _ (HK.out _ _ below_rf rfl)
          · intro a wz K hb ht hd hK
            have hbw := Lib.hid (below_tr RB5.out hb); clear hb
            obtain ⟨x96, hx96, hp96⟩ := hd 3 _ rfl (by kernel_rfl)
            obtain rfl := hp96
            have es96 : a.tmps.getD 96 undef = _ := getD_of hx96; clear hx96
            clear ht hd
            have HK := Lib.hid hK; clear hK
            have zq := (hbw.out.cell (p := ⟨b, off + (2 + k), none⟩) HW5.out).trans HQ6.out.1
            refine wpOpP_step (by simp only [List.getElem?_toArray, List.getElem?_cons_succ, List.getElem?_cons_zero]; rfl) (fun K' hK' => ?_)
            have HK' := Lib.hid hK'; clear hK'
            go_simp
            exact HK'.out _ _ (HK.out _ _ below_rf rfl)
          · intro a wz K hb ht hd hK
            have hbw := Lib.hid (below_tr RB5.out hb); clear hb
            obtain ⟨x97, hx97, hp97⟩ := hd 4 _ rfl (by kernel_rfl)
            obtain rfl := hp97
            have es97 : a.tmps.getD 97 undef = _ := getD_of hx97; clear hx97
            clear ht hd
            have HK := Lib.hid hK; clear hK
            refine wpOpP_step (by simp only [List.getElem?_toArray, List.getElem?_cons_succ, List.getElem?_cons_zero]; rfl) (fun K' hK' => ?_)
            have HK' := Lib.hid hK'; clear hK'
            go_simp
            exact HK'.out _ _ (HK.out _ _ below_rf rfl)
          · intro a wz K hb ht hd hK
            have hbw := Lib.hid (below_tr RB5.out hb); clear hb
            have hx0 := (ht 0 rfl).trans rfl
            have es0 : a.tmps.getD 0 undef = _ := getD_of hx0; clear hx0
            clear ht hd
            have HK := Lib.hid hK; clear hK
            refine wpOpP_step (by simp only [List.getElem?_toArray, List.getElem?_cons_succ, List.getElem?_cons_zero]; rfl) (fun K' hK' => ?_)
            have HK' := Lib.hid hK'; clear hK'
            go_simp
            exact HK'.out _ _ (HK.out _ _ below_rf rfl)
          · intro a wz K hb ht hd hK
            have hbw := Lib.hid (below_tr RB5.out hb); clear hb
            have hx6 := (ht 6 rfl).trans rfl
            have es6 : a.tmps.getD 6 undef = _ := getD_of hx6; clear hx6
            clear ht hd
            have HK := Lib.hid hK; clear hK
            refine wpOpP_step (by simp only [List.getElem?_toArray, List.getElem?_cons_succ, List.getElem?_cons_zero]; rfl) (fun K' hK' => ?_)
            have HK' := Lib.hid hK'; clear hK'
            go_simp
            exact HK'.out _ _ (HK.out _ _ below_rf rfl)
          · intro a wz K hb ht hd hK
            have hbw := Lib.hid (below_tr RB5.out hb); clear hb
            obtain ⟨x100, hx100, hp100⟩ := hd 7 _ rfl (by kernel_rfl)
            obtain rfl := hp100
            have es100 : a.tmps.getD 100 undef = _ := getD_of hx100; clear hx100
            clear ht hd
            have HK := Lib.hid hK; clear hK
            refine wpOpP_step (by simp only [List.getElem?_toArray, List.getElem?_cons_succ, List.getElem?_cons_zero]; rfl) (fun K' hK' => ?_)
            have HK' := Lib.hid hK'; clear hK'
            go_simp
            exact HK'.out _ _ (HK.out _ _ below_rf rfl)
          · intro a wz K hb ht hd hK
            have hbw := Lib.hid (below_tr RB5.out hb); clear hb
            obtain ⟨x99, hx99, hp99⟩ := hd 6 _ rfl (by kernel_rfl)
            obtain rfl := hp99
            have es99 : a.tmps.getD 99 undef = _ := getD_of hx99; clear hx99
            obtain ⟨x101, hx101, hp101⟩ := hd 8 _ rfl (by kernel_rfl)
            obtain rfl := hp101
            have es101 : a.tmps.getD 101 undef = _ := getD_of hx101; clear hx101
            clear ht hd
            have HK := Lib.hid hK; clear hK
            refine wpOpP_step (by simp only [List.getElem?_toArray, List.getElem?_cons_succ, List.getElem?_cons_zero]; rfl) (fun K' hK' => ?_)
            have HK' := Lib.hid hK'; clear hK'
            go_simp
            exact HK'.out _ _ (HK.out _ _ below_rf rfl)
          · intro a wz K hb ht hd hK
            have hbw := Lib.hid (below_tr RB5.out hb); clear hb
            obtain ⟨x102, hx102, hp102⟩ := hd 9 _ rfl (by kernel_rfl)
            obtain rfl := hp102
            have es102 : a.tmps.getD 102 undef = _ := getD_of hx102; clear hx102
            clear ht hd
            have HK := Lib.hid hK; clear hK
            have zq := (hbw.out.cell (p := ⟨b, off + (3 + k), none⟩) HW5.out).trans HQ6.out.2
            refine wpOpP_step (by simp only [List.getElem?_toArray, List.getElem?_cons_succ, List.getElem?_cons_zero]; rfl) (fun K' hK' => ?_)
            have HK' := Lib.hid hK'; clear hK'
            go_simp
            exact HK'.out _ _ (HK.out _ _ below_rf rfl)
          · intro a wz K hb ht hd hK
            have hbw := Lib.hid (below_tr RB5.out hb); clear hb
            obtain ⟨x103, hx103, hp103⟩ := hd 10 _ rfl (by kernel_rfl)
            obtain rfl := hp103
            have es103 : a.tmps.getD 103 undef = _ := getD_of hx103; clear hx103
            clear ht hd
            have HK := Lib.hid hK; clear hK
            refine wpOpP_step (by simp only [List.getElem?_toArray, List.getElem?_cons_succ, List.getElem?_cons_zero]; rfl) (fun K' hK' => ?_)
            have HK' := Lib.hid hK'; clear hK'
            go_simp
            exact HK'.out _ _ (HK.out _ _ below_rf rfl)
          · intro a wz K hb ht hd hK
            have hbw := Lib.hid (below_tr RB5.out hb); clear hb
            obtain ⟨x104, hx104, hp104⟩ := hd 11 _ rfl (by kernel_rfl)
            obtain rfl := hp104
            have es104 : a.tmps.getD 104 undef = _ := getD_of hx104; clear hx104
            clear ht hd
            have HK := Lib.hid hK; clear hK
            refine wpOpP_step (by simp only [List.getElem?_toArray, List.getElem?_cons_succ, List.getElem?_cons_zero]; rfl) (fun K' hK' => ?_)
            have HK' := Lib.hid hK'; clear hK'
            go_simp
            exact HK'.out _ _ (HK.out _ _ below_rf rfl)
          · intro a wz K hb ht hd hK
            have hbw := Lib.hid (below_tr RB5.out hb); clear hb
            obtain ⟨x98, hx98, hp98⟩ := hd 5 _ rfl (by kernel_rfl)
            obtain rfl := hp98
            have es98 : a.tmps.getD 98 undef = _ := getD_of hx98; clear hx98
            obtain ⟨x105, hx105, hp105⟩ := hd 12 _ rfl (by kernel_rfl)
            obtain rfl := hp105
            have es105 : a.tmps.getD 105 undef = _ := getD_of hx105; clear hx105
            clear ht hd
            have HK := Lib.hid hK; clear hK
            refine wpOpP_step (by simp only [List.getElem?_toArray, List.getElem?_cons_succ, List.getElem?_cons_zero]; rfl) (fun K' hK' => ?_)
            have HK' := Lib.hid hK'; clear hK'
            go_simp
            exact HK'.out _ _ (HK.out _ _ below_rf rfl)
        intro w6 X hb hv
        simp only [List.foldl_cons, List.foldl_nil, Act.put, List.setIfInBounds_toArray, List.set_cons_zero, List.set_cons_succ, List.toList_toArray, List.drop_succ_cons, List.drop_zero]
        obtain ⟨hv0, hv1, hv2, hv3, hv4, hv5, hv6, hv7, hv8, hv9, hv10, hv11, hv12, hv13, -⟩ := hv
        have hV0 : (fun z_ _ => z_ = .slice (some ⟨b, off, none⟩) N c) (X 93) w6 := hv0; clear hv0; have hv0 := hV0; clear hV0; generalize X 93 = X93 at *
        have hV1 : (fun z_ _ => z_ = .int .i64 (k)) (X 94) w6 := hv1; clear hv1; have hv1 := hV1; clear hV1; generalize X 94 = X94 at *
        have hV2 : (fun z_ _ => z_ = .int .i64 (2 + (k : Int))) (X 95) w6 := hv2; clear hv2; have hv2 := hV2; clear hV2; generalize X 95 = X95 at *
        have hV3 : (fun z_ _ => z_ = .pointer (some ⟨b, off + (2 + k), none⟩)) (X 96) w6 := hv3; clear hv3; have hv3 := hV3; clear hV3; generalize X 96 = X96 at *
        have hV4 : (fun z_ _ => z_ = .int .u8 (p % 256)) (X 97) w6 := hv4; clear hv4; have hv4 := hV4; clear hV4; generalize X 97 = X97 at *
        have hV5 : (fun z_ _ => z_ = .int .i64 (p % 256)) (X 98) w6 := hv5; clear hv5; have hv5 := hV5; clear hV5; generalize X 98 = X98 at *
        have hV6 : (fun z_ _ => z_ = .slice (some ⟨b, off, none⟩) N c) (X 99) w6 := hv6; clear hv6; have hv6 := hV6; clear hV6; generalize X 99 = X99 at *
        have hV7 : (fun z_ _ => z_ = .int .i64 (k)) (X 100) w6 := hv7; clear hv7; have hv7 := hV7; clear hV7; generalize X 100 = X100 at *
        have hV8 : (fun z_ _ => z_ = .int .i64 (3 + (k : Int))) (X 101) w6 := hv8; clear hv8; have hv8 := hV8; clear hV8; generalize X 101 = X101 at *
        have hV9 : (fun z_ _ => z_ = .pointer (some ⟨b, off + (3 + k), none⟩)) (X 102) w6 := hv9; clear hv9; have hv9 := hV9; clear hV9; generalize X 102 = X102 at *
        have hV10 : (fun z_ _ => z_ = .int .u8 (p / 256)) (X 103) w6 := hv10; clear hv10; have hv10 := hV10; clear hV10; generalize X 103 = X103 at *
        have hV11 : (fun z_ _ => z_ = .int .i64 (p / 256)) (X 104) w6 := hv11; clear hv11; have hv11 := hV11; clear hV11; generalize X 104 = X104 at *
        have hV12 : (fun z_ _ => z_ = .int .i64 (p / 256 * 256)) (X 105) w6 := hv12; clear hv12; have hv12 := hV12; clear hV12; generalize X 105 = X105 at *
        have hV13 : (fun z_ _ => z_ = .int .i64 (p)) (X 106) w6 := hv13; clear hv13; have hv13 := hV13; clear hV13; generalize X 106 = X106 at *
        obtain rfl := hv0
        obtain rfl := hv1
        obtain rfl := hv2
        obtain rfl := hv3
        obtain rfl := hv4
        obtain rfl := hv5
        obtain rfl := hv6
        obtain rfl := hv7
        obtain rfl := hv8
        obtain rfl := hv9
        obtain rfl := hv10
        obtain rfl := hv11
        obtain rfl := hv12
        obtain rfl := hv13
        have RC := Lib.hid (below_tr RB5.out hb); clear hb
        have FX_6 := Lib.hid (HX5.out.below RC.out (Nat.le_refl _))
        have FZ_6 := Lib.hid (HZ5.out.below RC.out (Nat.le_refl _))
        have FR_6 := Lib.hid (HR5.out.below RC.out (Nat.le_refl _))
        have HB6 := Lib.hid (HB5.out.trans (RC.out.mono HB5.out.size))
        clear HB5 HX5 HZ5 HR5 RB5
        have c3 := FX_6.out.cell 3 (v := .int .i64 0) rfl; have z3 := FX_6.out.free 3
        gi_wp2_with fail
        clear c3 z3
        have HX8 := Lib.hid (show Bx (w6.setCell ⟨w.heap.size + 1, 3, none⟩ (.int .i64 p)) (w.heap.size + 1) #[.int .i64 5, .int .i64 0, .slice (some ⟨g, 0, none⟩) k rc, .int .i64 p] 28 from FX_6.out.set 3 _)
        have HZ8 := Lib.hid (show Bx (w6.setCell ⟨w.heap.size + 1, 3, none⟩ (.int .i64 p)) w.heap.size #[.int .i64 0, .int .i64 0, .slice none 0 0, .int .i64 0] 28 from FZ_6.out.other (a := ⟨w.heap.size + 1, 3, none⟩) _ (by simp))
        have HR8 := Lib.hid (show Rgs (w6.setCell ⟨w.heap.size + 1, 3, none⟩ (.int .i64 p)) (some ⟨g, 0, none⟩) k rc d v Q0 from FR_6.out.setFar HGN.out.2)
        have HB8 := Lib.hid (show Below w.heap.size w (w6.setCell ⟨w.heap.size + 1, 3, none⟩ (.int .i64 p)) from below_st (Nat.le_succ _) HB6.out)
        clear FX_6 FZ_6 FR_6 HB6
        generalize (w6.setCell ⟨w.heap.size + 1, 3, none⟩ (.int .i64 p)) = w8 at *
        have c0 := HX8.out.cell 0 (v := .int .i64 5) rfl; have c1 := HX8.out.cell 1 (v := .int .i64 0) rfl; have c2 := HX8.out.cell 2 (v := .slice (some ⟨g, 0, none⟩) k rc) rfl; have c3 := HX8.out.cell 3 (v := .int .i64 p) rfl
        have y0 := HZ8.out.free 0; have y1 := HZ8.out.free 1; have y2 := HZ8.out.free 2; have y3 := HZ8.out.free 3
        have x0 := HZ8.out.cell 0 (v := .int .i64 0) rfl; have x1 := HZ8.out.cell 1 (v := .int .i64 0) rfl; have x2 := HZ8.out.cell 2 (v := .slice none 0 0) rfl; have x3 := HZ8.out.cell 3 (v := .int .i64 0) rfl
        have ed : IntKind.i64.wrap (4 + (k : Int)) = 4 + (k : Int) := by rw [IntKind.wrap_i64]; omega
        go_wp2_with fail
        have HF := Lib.hid (bx_set4 (v0 := .int .i64 5) (v1 := .int .i64 0) (v2 := .slice (some ⟨g, 0, none⟩) k rc) (v3 := .int .i64 p) HZ8.out)
        have r0 := HF.out.cell 0 (v := .int .i64 5) rfl; have r1 := HF.out.cell 1 (v := .int .i64 0) rfl; have r2 := HF.out.cell 2 (v := .slice (some ⟨g, 0, none⟩) k rc) rfl; have r3 := HF.out.cell 3 (v := .int .i64 p) rfl
        have HR9 := Lib.hid ((((HR8.out.setFar (i := 0) (x := .int .i64 5) HGN.out.1).setFar (i := 1) (x := .int .i64 0) HGN.out.1).setFar (i := 2) (x := .slice (some ⟨g, 0, none⟩) k rc) HGN.out.1).setFar (i := 3) (x := .int .i64 p) HGN.out.1)
        have HB9 := Lib.hid (show Below w.heap.size w ((((w8.setCell ⟨w.heap.size, 0, none⟩ (.int .i64 5)).setCell ⟨w.heap.size, 1, none⟩ (.int .i64 0)).setCell ⟨w.heap.size, 2, none⟩ (.slice (some ⟨g, 0, none⟩) k rc)).setCell ⟨w.heap.size, 3, none⟩ (.int .i64 p)) from below_st (Nat.le_refl _) (below_st (Nat.le_refl _) (below_st (Nat.le_refl _) (below_st (Nat.le_refl _) HB8.out))))
        clear c0 c1 c2 c3 x0 x1 x2 x3 y0 y1 y2 y3
        generalize ((((w8.setCell ⟨w.heap.size, 0, none⟩ (.int .i64 5)).setCell ⟨w.heap.size, 1, none⟩ (.int .i64 0)).setCell ⟨w.heap.size, 2, none⟩ (.slice (some ⟨g, 0, none⟩) k rc)).setCell ⟨w.heap.size, 3, none⟩ (.int .i64 p)) = w9 at *
        rw [Exit.noGoto_ret]
        refine bodyPost_ret (v := .tuple #[.agg #[.int .i64 5, .int .i64 0, .slice (some ⟨g, 0, none⟩) k rc, .int .i64 p], .int .i64 (4 + k), .int .i64 0]) (by simp [results, Tryz.results78, go_sem, r0, r1, r2, r3]) rfl ⟨⟨g, rc, by simp [hlR], HG.out, HR9.out⟩, HB9.out⟩
end Go.Proofs.YtjdiilkljgljkaaGreatDoor
namespace Go.Proofs.YtjdiilkljgljkaaGreatDoor
set_option linter.unusedVariables false
set_option linter.unusedSimpArgs false
open Go.RowKit Wd

set_option maxHeartbeats 4000000 in
set_option maxRecDepth 100000 in
theorem header_ClassifyR (op p : Int) (hop : OpP op p) (n : Nat) (d : Nat → Bool) (v : Nat → Int) (ho : OkK n v) (rest : List Int) (hl : (rest.length : Int) = payR op p (sumZ v n)) (A : Option Addr) (N c : Nat) (w : World) (hT : TabF w) (hN : (hdrB op n d v p ++ rest).length = N) (hb : By w A c (hdrB op n d v p ++ rest)) :
    Calls Tryz.prog 77 #[.slice A N c] w fun e w' => e = .returned (.int .i64 0) ∧ Below w.heap.size w w' := by
  have HO := Lib.hid ho; have HT := Lib.hid hT; have HB := Lib.hid hb; have HL := Lib.hid hl; have HN := Lib.hid hN
  have HOP := hop
  have h1 := ho.pos
  have h2 := ho.le
  have hmx := hb.cap; have hm2 := hb.max
  rw [hN] at hmx
  unfold maxLen at hm2
  clear ho hT hb hl
  rcases hop with ⟨h, h'⟩ | ⟨h, hp1, hp2⟩
  · subst h; subst h'
    have hn2 : (rest.length + n + 2 : Nat) = N := by rw [← hN]; simp [hdrB, ptsN, codL_len]; omega
    clear hN
    go_enter Tryz.func77, Tryz.ntmps77
    go_wp2_with fail
    refine (header_ParseR 4 0 HOP n d v HO.out rest A N c _ HN.out HB.out).mono ?_
    rintro e w1 ⟨⟨g, rc, rfl, hg, hrg⟩, B⟩
    have HR1 := Lib.hid hrg; have HB1 := Lib.hid B; have HT1 := Lib.hid (HT.out.below B (Nat.le_refl _)); clear B hg hrg
    rw [show hlR 4 n = 2 + (n : Int) from by simp [hlR]]
    go_wp2_with fail
    have HX2 := Lib.hid (Bx.new w1 #[.int .i64 4, .int .i64 0, .slice (some ⟨g, 0, none⟩) n rc, .int .i64 0] 28)
    have HR2 := Lib.hid (HR1.out.alloc (.cells #[.int .i64 4, .int .i64 0, .slice (some ⟨g, 0, none⟩) n rc, .int .i64 0] 28)); have HT2 := Lib.hid (HT1.out.alloc (.cells #[.int .i64 4, .int .i64 0, .slice (some ⟨g, 0, none⟩) n rc, .int .i64 0] 28))
    have HB2 := Lib.hid (HB1.out.alloc HB1.out.size (.cells #[.int .i64 4, .int .i64 0, .slice (some ⟨g, 0, none⟩) n rc, .int .i64 0] 28))
    generalize w1.alloc (.cells #[.int .i64 4, .int .i64 0, .slice (some ⟨g, 0, none⟩) n rc, .int .i64 0] 28) = w2 at *
    clear HT1 HB1 HR1
    have c0 := HX2.out.cell 0 (v := .int .i64 4) rfl; have c1 := HX2.out.cell 1 (v := .int .i64 0) rfl; have c2 := HX2.out.cell 2 (v := .slice (some ⟨g, 0, none⟩) n rc) rfl; have c3 := HX2.out.cell 3 (v := .int .i64 0) rfl
    go_wp2_with fail
    refine (header_PayloadR 4 0 HOP (some ⟨g, 0, none⟩) n rc d v Q0 HO.out (fun _ _ => rfl) _ HT2.out HR2.out).mono ?_
    rintro e w3 ⟨rfl, B⟩
    have HB3 := Lib.hid (HB2.out.trans (B.mono HB2.out.size)); clear B HB2
    have HSR := Lib.hid (sumZ_range v n)
    have hpr : (2 + (n : Int)) + payR 4 0 (sumZ v n) = (N : Int) := by rw [← HL.out]; omega
    have ew : IntKind.i64.wrap ((2 + (n : Int)) + payR 4 0 (sumZ v n)) = (N : Int) := by rw [hpr, IntKind.wrap_i64]; omega
    clear hpr c0 c1 c2 c3
    go_wp2_with fail
    go_ret
    exact ⟨rfl, HB3.out⟩
  · subst h
    have hn2 : (rest.length + n + 4 : Nat) = N := by rw [← hN]; simp [hdrB, ptsN, codL_len]; omega
    clear hN
    go_enter Tryz.func77, Tryz.ntmps77
    go_wp2_with fail
    refine (header_ParseR 5 p HOP n d v HO.out rest A N c _ HN.out HB.out).mono ?_
    rintro e w1 ⟨⟨g, rc, rfl, hg, hrg⟩, B⟩
    have HR1 := Lib.hid hrg; have HB1 := Lib.hid B; have HT1 := Lib.hid (HT.out.below B (Nat.le_refl _)); clear B hg hrg
    rw [show hlR 5 n = 4 + (n : Int) from by simp [hlR]]
    go_wp2_with fail
    have HX2 := Lib.hid (Bx.new w1 #[.int .i64 5, .int .i64 0, .slice (some ⟨g, 0, none⟩) n rc, .int .i64 p] 28)
    have HR2 := Lib.hid (HR1.out.alloc (.cells #[.int .i64 5, .int .i64 0, .slice (some ⟨g, 0, none⟩) n rc, .int .i64 p] 28)); have HT2 := Lib.hid (HT1.out.alloc (.cells #[.int .i64 5, .int .i64 0, .slice (some ⟨g, 0, none⟩) n rc, .int .i64 p] 28))
    have HB2 := Lib.hid (HB1.out.alloc HB1.out.size (.cells #[.int .i64 5, .int .i64 0, .slice (some ⟨g, 0, none⟩) n rc, .int .i64 p] 28))
    generalize w1.alloc (.cells #[.int .i64 5, .int .i64 0, .slice (some ⟨g, 0, none⟩) n rc, .int .i64 p] 28) = w2 at *
    clear HT1 HB1 HR1
    have c0 := HX2.out.cell 0 (v := .int .i64 5) rfl; have c1 := HX2.out.cell 1 (v := .int .i64 0) rfl; have c2 := HX2.out.cell 2 (v := .slice (some ⟨g, 0, none⟩) n rc) rfl; have c3 := HX2.out.cell 3 (v := .int .i64 p) rfl
    go_wp2_with fail
    refine (header_PayloadR 5 p HOP (some ⟨g, 0, none⟩) n rc d v Q0 HO.out (fun _ _ => rfl) _ HT2.out HR2.out).mono ?_
    rintro e w3 ⟨rfl, B⟩
    have HB3 := Lib.hid (HB2.out.trans (B.mono HB2.out.size)); clear B HB2
    have HSR := Lib.hid (sumZ_range v n)
    have hpr : (4 + (n : Int)) + payR 5 p (sumZ v n) = (N : Int) := by rw [← HL.out]; omega
    have ew : IntKind.i64.wrap ((4 + (n : Int)) + payR 5 p (sumZ v n)) = (N : Int) := by rw [hpr, IntKind.wrap_i64]; omega
    clear hpr c0 c1 c2 c3
    go_wp2_with fail
    go_ret
    exact ⟨rfl, HB3.out⟩
end Go.Proofs.YtjdiilkljgljkaaGreatDoor
namespace Go.Proofs.YtjdiilkljgljkaaGreatDoor
set_option linter.unusedVariables false
set_option linter.unusedSimpArgs false
open Go.RowKit Wd


set_option maxHeartbeats 4000000 in
set_option maxRecDepth 100000 in
theorem codec_counts4 (A : Option Addr) (n c : Nat) (w : World) :
    Calls Tryz.prog 82 #[.agg #[.int .i64 4, .int .i64 0, .slice A n c, .int .i64 0]] w fun e w' => e = .returned (.tuple #[.int .i64 1, .int .i64 0]) ∧ Below w.heap.size w w' := by
  go_enter Tryz.func82, Tryz.ntmps82
  go_wp2_with fail
  go_ret2
  exact ⟨rfl, below_al below_rf⟩
end Go.Proofs.YtjdiilkljgljkaaGreatDoor
namespace Go.Proofs.YtjdiilkljgljkaaGreatDoor
set_option linter.unusedVariables false
set_option linter.unusedSimpArgs false
open Go.RowKit Wd


/-- the bytes of the regions' points -/
def rgsB (Q : Nat → Option Addr × Nat × Nat) (F G : Nat → Nat → Int) : Nat → List Int
  | 0 => []
  | k + 1 => rgsB Q F G k ++ ptsB (F k) (G k) (Q k).2.1
theorem rgsB_len {v : Nat → Int} {Q : Nat → Option Addr × Nat × Nat} (F G : Nat → Nat → Int) {n : Nat} (h : ∀ i, i < n → (((Q i).2.1 : Nat) : Int) = szf (v i)) : ∀ k, k ≤ n → ((rgsB Q F G k).length : Int) = 16 * sumZ v k
  | 0, _ => rfl
  | k + 1, hk => by
    have h1 := rgsB_len F G h k (by omega)
    have h2 := h k (by omega)
    rw [rgsB, List.length_append, ptsB_len, sumZ]; omega
theorem rgsB_short {v : Nat → Int} {Q : Nat → Option Addr × Nat × Nat} (F G : Nat → Nat → Int) {n k : Nat} (h : ∀ i, i < n → (((Q i).2.1 : Nat) : Int) = szf (v i)) (hk : k ≤ n) (hn : n ≤ 64) : (rgsB Q F G k).length ≤ 65536 := by
  have h1 := rgsB_len F G h k hk; have h2 := sumZ_range v k; omega
set_option maxHeartbeats 4000000 in
set_option maxRecDepth 100000 in
theorem codec_Encode4 (HA : Option Addr) (hc : Nat) (Qh : Nat → Option Addr × Nat × Nat) (A : Option Addr) (n c : Nat) (d : Nat → Bool) (v : Nat → Int) (Q : Nat → Option Addr × Nat × Nat) (F G : Nat → Nat → Int) (PA : Option Addr) (pc : Nat) (f g : Nat → Int) (QA : Option Addr) (qc : Nat) (w : World)
    (hh : Rgs w HA n hc d v Qh) (hq : ∀ k, k < n → (Qh k).2.1 = 0) (hr : Rgs w A n c d v Q) (hp : RgP w n Q F G) (ho : OkR n v Q) (hpp : Pts w PA 1 pc f g) :
    Calls Tryz.prog 85 #[.agg #[.int .i64 4, .int .i64 0, .slice HA n hc, .int .i64 0, .slice A n c, .slice PA 1 pc, .slice QA 0 qc]] w fun e w' => (∃ v', e = .returned (.tuple #[v', .int .i64 0])) ∧ Below w.heap.size w w' := by
  have HH := Lib.hid hh; have HQ := Lib.hid hq; have HR := Lib.hid hr; have HP := Lib.hid hp; have HO := Lib.hid ho; have HPP := Lib.hid hpp
  have hcp := hr.cap
  have hmx := hr.max
  have hcp2 := hh.cap
  have hmx2 := hh.max
  have hcp3 := hpp.cap
  have hmx3 := hpp.max
  have h1 := ho.pos
  have h2 := ho.le
  clear hh hq hr hp ho hpp
  unfold maxLen at hmx hmx2 hmx3
  obtain ⟨b, off, rfl, hbl, hc⟩ := HR.out.at_ (by omega)
  have HC := Lib.hid hc; have HBL := Lib.hid hbl; clear hc hbl
  obtain ⟨hb_, hoff, rfl, hhl, hhc⟩ := HH.out.at_ (by omega)
  have HHC := Lib.hid hhc; have HHL := Lib.hid hhl; clear hhc hhl
  go_enter Tryz.func85, Tryz.ntmps85
  go_wp2_with fail
  have HX := Lib.hid (Bx.new w #[.int .i64 4, .int .i64 0, .slice (some ⟨hb_, hoff, none⟩) n hc, .int .i64 0, .slice (some ⟨b, off, none⟩) n c, .slice PA 1 pc, .slice QA 0 qc] 99)
  have HB1 := Lib.hid (show Below w.heap.size w (w.alloc (.cells #[.int .i64 4, .int .i64 0, .slice (some ⟨hb_, hoff, none⟩) n hc, .int .i64 0, .slice (some ⟨b, off, none⟩) n c, .slice PA 1 pc, .slice QA 0 qc] 99)) from below_al below_rf)
  generalize w.alloc (.cells #[.int .i64 4, .int .i64 0, .slice (some ⟨hb_, hoff, none⟩) n hc, .int .i64 0, .slice (some ⟨b, off, none⟩) n c, .slice PA 1 pc, .slice QA 0 qc] 99) = w1 at *
  have c0 := HX.out.cell 0 (v := .int .i64 4) rfl; have c1 := HX.out.cell 1 (v := .int .i64 0) rfl; have c2 := HX.out.cell 2 (v := .slice (some ⟨hb_, hoff, none⟩) n hc) rfl; have c3 := HX.out.cell 3 (v := .int .i64 0) rfl
  go_wp2_with fail
  clear c0 c1 c2 c3
  refine (header_FormatR 4 0 (.inl ⟨rfl, rfl⟩) _ n hc d v Qh HO.out.toOkK HQ.out _ (HH.out.below HB1.out (Nat.le_refl _))).mono ?_
  rintro e w2 ⟨⟨v', rfl, ho2⟩, B⟩
  obtain ⟨A', c', rfl⟩ := ho2.slice
  have HX2 := Lib.hid (HX.out.below B (Nat.le_refl _)); have HB12 := Lib.hid B; have HO2 := Lib.hid ho2; clear B ho2
  have c0 := HX2.out.cell 0 (v := .int .i64 4) rfl; have c1 := HX2.out.cell 1 (v := .int .i64 0) rfl; have c2 := HX2.out.cell 2 (v := .slice (some ⟨hb_, hoff, none⟩) n hc) rfl; have c3 := HX2.out.cell 3 (v := .int .i64 0) rfl
  go_wp2_with fail
  clear c0 c1 c2 c3
  refine (codec_counts4 _ n hc _).mono ?_
  rintro e w3 ⟨rfl, B⟩
  have HX3 := Lib.hid (HX2.out.below B (Nat.le_refl _)); have HB13 := Lib.hid (HB12.out.trans (B.mono HB12.out.size)); have HO3 := Lib.hid (HO2.out.below B (Nat.le_refl _)); clear B HX2 HB12 HO2
  have c0 := HX3.out.cell 0 (v := .int .i64 4) rfl; have c1 := HX3.out.cell 1 (v := .int .i64 0) rfl; have c2 := HX3.out.cell 2 (v := .slice (some ⟨hb_, hoff, none⟩) n hc) rfl; have c3 := HX3.out.cell 3 (v := .int .i64 0) rfl; have c4 := HX3.out.cell 4 (v := .slice (some ⟨b, off, none⟩) n c) rfl; have c5 := HX3.out.cell 5 (v := .slice PA 1 pc) rfl; have c6 := HX3.out.cell 6 (v := .slice QA 0 qc) rfl
  go_wp2_with fail
  clear c0 c1 c2 c3 c4 c5 c6
  go_loopw [5, 54] (fun er ir wr => ∃ k : Nat, k ≤ n ∧ er = .int .i64 0 ∧ ir = .int .i64 (k : Int) ∧ Below w3.heap.size w3 wr) (fun _ i _ => n - (intOf i).toNat)
  case atStart => exact ⟨0, by omega, rfl, rfl, below_rf⟩
  case round =>
    obtain ⟨k, hk, rfl, rfl, hb⟩ := hrel
    have HBR := Lib.hid hb; clear hb
    have HXR := Lib.hid (HX3.out.below HBR.out (Nat.le_refl _))
    have HB := Lib.hid (HB1.out.trans ((HB13.out.trans (HBR.out.mono HB13.out.size)).mono HB1.out.size))
    by_cases hlt : k < n
    · have p0 : wr.cell? ⟨b, off + k * 3, none⟩ = some (.bool (d k)) := (HB.out.cell (p := ⟨b, off + k * 3, none⟩) HBL.out).trans (HC.out k hlt).1
      have p1 : wr.cell? ⟨b, off + k * 3 + 1, none⟩ = some (.int .i64 (v k)) := (HB.out.cell (p := ⟨b, off + k * 3 + 1, none⟩) HBL.out).trans (HC.out k hlt).2.1
      have p2 : wr.cell? ⟨b, off + k * 3 + 2, none⟩ = some (.slice (Q k).1 (Q k).2.1 (Q k).2.2) := (HB.out.cell (p := ⟨b, off + k * 3 + 2, none⟩) HBL.out).trans (HC.out k hlt).2.2
      have r0 : wr.cell? ⟨hb_, hoff + k * 3, none⟩ = some (.bool (d k)) := (HB.out.cell (p := ⟨hb_, hoff + k * 3, none⟩) HHL.out).trans (HHC.out k hlt).1
      have r1 : wr.cell? ⟨hb_, hoff + k * 3 + 1, none⟩ = some (.int .i64 (v k)) := (HB.out.cell (p := ⟨hb_, hoff + k * 3 + 1, none⟩) HHL.out).trans (HHC.out k hlt).2.1
      have r2 : wr.cell? ⟨hb_, hoff + k * 3 + 2, none⟩ = some (.slice (Qh k).1 (Qh k).2.1 (Qh k).2.2) := (HB.out.cell (p := ⟨hb_, hoff + k * 3 + 2, none⟩) HHL.out).trans (HHC.out k hlt).2.2
      have hms := Lib.hid (show n - (intOf (.int .i64 ((k : Int) + 1))).toNat < n - (intOf (.int .i64 (k : Int))).toNat from by simp [intOf]; omega)
      have c2 := HXR.out.cell 2 (v := .slice (some ⟨hb_, hoff, none⟩) n hc) rfl
      have hxlt := HXR.out.lt
      have hhlt : hb_ < wr.heap.size := Nat.lt_of_lt_of_le HHL.out HB.out.size
      go_wp2_with fail
      clear p0 p1 p2 r0 r1 r2 c2
      have FG := Lib.hid (show Bx ((wr.alloc (.cells #[.bool (d k), .int .i64 (v k), .slice (Q k).1 (Q k).2.1 (Q k).2.2] 48)).alloc (.cells #[.bool (d k), .int .i64 (v k), .slice (Qh k).1 (Qh k).2.1 (Qh k).2.2] 48)) wr.heap.size #[.bool (d k), .int .i64 (v k), .slice (Q k).1 (Q k).2.1 (Q k).2.2] 48 from (Bx.new _ _ _).alloc _)
      have FH := Lib.hid (show Bx ((wr.alloc (.cells #[.bool (d k), .int .i64 (v k), .slice (Q k).1 (Q k).2.1 (Q k).2.2] 48)).alloc (.cells #[.bool (d k), .int .i64 (v k), .slice (Qh k).1 (Qh k).2.1 (Qh k).2.2] 48)) (wr.heap.size + 1) #[.bool (d k), .int .i64 (v k), .slice (Qh k).1 (Qh k).2.1 (Qh k).2.2] 48 from bx_new (by simp))
      have HB9 := Lib.hid (HBR.out.trans ((show Below wr.heap.size wr ((wr.alloc (.cells #[.bool (d k), .int .i64 (v k), .slice (Q k).1 (Q k).2.1 (Q k).2.2] 48)).alloc (.cells #[.bool (d k), .int .i64 (v k), .slice (Qh k).1 (Qh k).2.1 (Qh k).2.2] 48)) from below_al (below_al below_rf)).mono HBR.out.size))
      clear HBR HXR HB hxlt hhlt
      generalize ((wr.alloc (.cells #[.bool (d k), .int .i64 (v k), .slice (Q k).1 (Q k).2.1 (Q k).2.2] 48)).alloc (.cells #[.bool (d k), .int .i64 (v k), .slice (Qh k).1 (Qh k).2.1 (Qh k).2.2] 48)) = w4 at *
      have HNE := Lib.hid (show (!((((Q k).2.1 : Nat) : Int) == szf (v k))) = false from by rw [HO.out.num k hlt]; simp)
      refine (wpIn_wide (n := 0)).1 ?_
      refine wpIn_region_any (by kernel_rfl) ?_
      change wpAnyIn _ _ _ _ _ _ _ _ _ (World.drew _)
      have RB5 := Lib.hid (below_drew0 w4)
      refine wpAnyIn_tail WideF.wide (fun a b => Below a.heap.size a b) (fun _ => below_rf) (fun _ _ _ h k => below_tr h k) [⟨0, 66, fun z_ _ => z_ = .pointer (some ⟨wr.heap.size, 2, none⟩)⟩, ⟨1, 67, fun z_ _ => z_ = .slice (Q k).1 (Q k).2.1 (Q k).2.2⟩, ⟨2, 68, fun z_ _ => z_ = .int .i64 (((Q k).2.1 : Nat) : Int)⟩, ⟨3, 69, fun z_ _ => z_ = .agg #[.bool (d k), .int .i64 (v k), .slice (Qh k).1 (Qh k).2.1 (Qh k).2.2]⟩, ⟨4, 70, fun z_ _ => z_ = .int .i64 (szf (v k))⟩, ⟨5, 71, fun z_ _ => z_ = .bool false⟩, ⟨6, 65, fun z_ _ => z_ = .bool false⟩] 7 (by kernel_rfl) ?_ ?_ ?_
      · refine ⟨?_, ?_, ?_, ?_, ?_, ?_, ?_, trivial⟩
        all_goals (intro x w w' hb h; first | exact h | (obtain ⟨b_, h1, h2⟩ := h; exact ⟨b_, h1, h2.below hb (Nat.le_refl _)⟩))
      · refine ⟨?_, ?_, ?_, ?_, ?_, ?_, ?_, trivial⟩
        · intro a wz K hb ht hd hK
          have hbw := Lib.hid (below_tr RB5.out hb); clear hb
          have hx9 := (ht 9 rfl).trans rfl
          have es9 : a.tmps.getD 9 undef = _ := getD_of hx9; clear hx9
          clear ht hd
          have HK := Lib.hid hK; clear hK
          refine wpOpP_step (by simp only [List.getElem?_toArray, List.getElem?_cons_succ, List.getElem?_cons_zero]; rfl) (fun K' hK' => ?_)
          have HK' := Lib.hid hK'; clear hK'
          go_simp
          exact HK'.out _ _ (HK.out _ _ below_rf rfl)
        · intro a wz K hb ht hd hK
          have hbw := Lib.hid (below_tr RB5.out hb); clear hb
          obtain ⟨x66, hx66, hp66⟩ := hd 0 _ rfl (by kernel_rfl)
          obtain rfl := hp66
          have es66 : a.tmps.getD 66 undef = _ := getD_of hx66; clear hx66
          clear ht hd
          have zc0 := (FG.out.below hbw.out (Nat.le_refl _)).cell 2 (v := .slice (Q k).1 (Q k).2.1 (Q k).2.2) rfl
          have HK := Lib.hid hK; clear hK
          refine wpOpP_step (by simp only [List.getElem?_toArray, List.getElem?_cons_succ, List.getElem?_cons_zero]; rfl) (fun K' hK' => ?_)
          have HK' := Lib.hid hK'; clear hK'
          go_simp
          exact HK'.out _ _ (HK.out _ _ below_rf rfl)
        · intro a wz K hb ht hd hK
          have hbw := Lib.hid (below_tr RB5.out hb); clear hb
          obtain ⟨x67, hx67, hp67⟩ := hd 1 _ rfl (by kernel_rfl)
          obtain rfl := hp67
          have es67 : a.tmps.getD 67 undef = _ := getD_of hx67; clear hx67
          clear ht hd
          have HK := Lib.hid hK; clear hK
          refine wpOpP_step (by simp only [List.getElem?_toArray, List.getElem?_cons_succ, List.getElem?_cons_zero]; rfl) (fun K' hK' => ?_)
          have HK' := Lib.hid hK'; clear hK'
          go_simp
          exact HK'.out _ _ (HK.out _ _ below_rf rfl)
        · intro a wz K hb ht hd hK
          have hbw := Lib.hid (below_tr RB5.out hb); clear hb
          have hx10 := (ht 10 rfl).trans rfl
          have es10 : a.tmps.getD 10 undef = _ := getD_of hx10; clear hx10
          clear ht hd
          have zc0 := (FH.out.below hbw.out (Nat.le_refl _)).cell 0 (v := .bool (d k)) rfl
          have zc1 := (FH.out.below hbw.out (Nat.le_refl _)).cell 1 (v := .int .i64 (v k)) rfl
          have zc2 := (FH.out.below hbw.out (Nat.le_refl _)).cell 2 (v := .slice (Qh k).1 (Qh k).2.1 (Qh k).2.2) rfl
          have HK := Lib.hid hK; clear hK
          refine wpOpP_step (by simp only [List.getElem?_toArray, List.getElem?_cons_succ, List.getElem?_cons_zero]; rfl) (fun K' hK' => ?_)
          have HK' := Lib.hid hK'; clear hK'
          go_simp
          exact HK'.out _ _ (HK.out _ _ below_rf rfl)
        · intro a wz K hb ht hd hK
          have hbw := Lib.hid (below_tr RB5.out hb); clear hb
          obtain ⟨x69, hx69, hp69⟩ := hd 3 _ rfl (by kernel_rfl)
          obtain rfl := hp69
          have es69 : a.tmps.getD 69 undef = _ := getD_of hx69; clear hx69
          clear ht hd
          have HK := Lib.hid hK; clear hK
          refine wpOpP_step (by simp only [List.getElem?_toArray, List.getElem?_cons_succ, List.getElem?_cons_zero]; rfl) (fun K' hK' => ?_)
          have HK' := Lib.hid hK'; clear hK'
          go_simp
          refine (fence_Size (d k) (v k) _ _ _ _).mono ?_
          rintro e w1 ⟨rfl, B⟩
          go_wp2_with fail
          exact HK'.out _ _ (HK.out _ _ B rfl)
        · intro a wz K hb ht hd hK
          have hbw := Lib.hid (below_tr RB5.out hb); clear hb
          obtain ⟨x68, hx68, hp68⟩ := hd 2 _ rfl (by kernel_rfl)
          obtain rfl := hp68
          have es68 : a.tmps.getD 68 undef = _ := getD_of hx68; clear hx68
          obtain ⟨x70, hx70, hp70⟩ := hd 4 _ rfl (by kernel_rfl)
          obtain rfl := hp70
          have es70 : a.tmps.getD 70 undef = _ := getD_of hx70; clear hx70
          clear ht hd
          have HK := Lib.hid hK; clear hK
          refine wpOpP_step (by simp only [List.getElem?_toArray, List.getElem?_cons_succ, List.getElem?_cons_zero]; rfl) (fun K' hK' => ?_)
          have HK' := Lib.hid hK'; clear hK'
          go_simp
          exact HK'.out _ _ (HK.out _ _ below_rf (congrArg Value.bool HNE.out))
        · intro a wz K hb ht hd hK
          have hbw := Lib.hid (below_tr RB5.out hb); clear hb
          obtain ⟨x71, hx71, hp71⟩ := hd 5 _ rfl (by kernel_rfl)
          obtain rfl := hp71
          have es71 : a.tmps.getD 71 undef = _ := getD_of hx71; clear hx71
          clear ht hd
          have HK := Lib.hid hK; clear hK
          refine wpOpP_step (by simp only [List.getElem?_toArray, List.getElem?_cons_succ, List.getElem?_cons_zero]; rfl) (fun K' hK' => ?_)
          have HK' := Lib.hid hK'; clear hK'
          go_simp
          exact HK'.out _ _ (HK.out _ _ below_rf rfl)
      intro w6 X hb hv
      simp only [List.foldl_cons, List.foldl_nil, Act.put, List.setIfInBounds_toArray, List.set_cons_zero, List.set_cons_succ, List.toList_toArray, List.drop_succ_cons, List.drop_zero]
      obtain ⟨hv0, hv1, hv2, hv3, hv4, hv5, hv6, -⟩ := hv
      have hV0 : (fun z_ _ => z_ = .pointer (some ⟨wr.heap.size, 2, none⟩)) (X 66) w6 := hv0; clear hv0; have hv0 := hV0; clear hV0; generalize X 66 = X66 at *
      have hV1 : (fun z_ _ => z_ = .slice (Q k).1 (Q k).2.1 (Q k).2.2) (X 67) w6 := hv1; clear hv1; have hv1 := hV1; clear hV1; generalize X 67 = X67 at *
      have hV2 : (fun z_ _ => z_ = .int .i64 (((Q k).2.1 : Nat) : Int)) (X 68) w6 := hv2; clear hv2; have hv2 := hV2; clear hV2; generalize X 68 = X68 at *
      have hV3 : (fun z_ _ => z_ = .agg #[.bool (d k), .int .i64 (v k), .slice (Qh k).1 (Qh k).2.1 (Qh k).2.2]) (X 69) w6 := hv3; clear hv3; have hv3 := hV3; clear hV3; generalize X 69 = X69 at *
      have hV4 : (fun z_ _ => z_ = .int .i64 (szf (v k))) (X 70) w6 := hv4; clear hv4; have hv4 := hV4; clear hV4; generalize X 70 = X70 at *
      have hV5 : (fun z_ _ => z_ = .bool false) (X 71) w6 := hv5; clear hv5; have hv5 := hV5; clear hV5; generalize X 71 = X71 at *
      have hV6 : (fun z_ _ => z_ = .bool false) (X 65) w6 := hv6; clear hv6; have hv6 := hV6; clear hV6; generalize X 65 = X65 at *
      obtain rfl := hv0
      obtain rfl := hv1
      obtain rfl := hv2
      obtain rfl := hv3
      obtain rfl := hv4
      obtain rfl := hv5
      obtain rfl := hv6
      have RC := Lib.hid (below_tr RB5.out hb); clear hb
      have FG_6 := Lib.hid (FG.out.below RC.out (Nat.le_refl _))
      have FH_6 := Lib.hid (FH.out.below RC.out (Nat.le_refl _))
      have HB6 := Lib.hid (HB9.out.trans (RC.out.mono HB9.out.size))
      clear HB9 FG FH RB5
      refine wpListIn_nil ?_
      have p0 := FG_6.out.cell 0 (v := .bool (d k)) rfl; have p1 := FG_6.out.cell 1 (v := .int .i64 (v k)) rfl; have p2 := FG_6.out.cell 2 (v := .slice (Q k).1 (Q k).2.1 (Q k).2.2) rfl
      have r0 := FH_6.out.cell 0 (v := .bool (d k)) rfl; have r1 := FH_6.out.cell 1 (v := .int .i64 (v k)) rfl; have r2 := FH_6.out.cell 2 (v := .slice (Qh k).1 (Qh k).2.1 (Qh k).2.2) rfl
      go_wp2_with fail
      go_roundw
      case rel => exact ⟨k + 1, hlt, rfl, by go_num, HB6.out⟩
      case measure => exact hms.out
    · obtain rfl : k = n := by omega
      have c0 := HXR.out.cell 0 (v := .int .i64 4) rfl; have c1 := HXR.out.cell 1 (v := .int .i64 0) rfl; have c2 := HXR.out.cell 2 (v := .slice (some ⟨hb_, hoff, none⟩) k hc) rfl; have c3 := HXR.out.cell 3 (v := .int .i64 0) rfl; have c4 := HXR.out.cell 4 (v := .slice (some ⟨b, off, none⟩) k c) rfl; have c5 := HXR.out.cell 5 (v := .slice PA 1 pc) rfl; have c6 := HXR.out.cell 6 (v := .slice QA 0 qc) rfl
      have HO4 := Lib.hid (HO3.out.below HBR.out (Nat.le_refl _))
      have HB13' := Lib.hid (HB13.out.trans (HBR.out.mono HB13.out.size))
      clear HO3 HB13 HX3 HBR
      have hxlt := HXR.out.lt
      go_wp2_with fail
      clear c0 c1 c2 c3 c4 c5 c6 hxlt
      have HW4 := Lib.hid (show Wr (wr.alloc (.cells #[.slice A' (hdrB 4 k d v 0).length c'] 142)) w1.heap.size wr.heap.size (hdrB 4 k d v 0) from ⟨HB13'.out.size, .slice A' (hdrB 4 k d v 0).length c', Bx.new _ _ _, HO4.out.alloc _⟩)
      have HB14 := Lib.hid (HB13'.out.alloc HB13'.out.size (.cells #[.slice A' (hdrB 4 k d v 0).length c'] 142))
      have HX4 := Lib.hid (HXR.out.alloc (.cells #[.slice A' (hdrB 4 k d v 0).length c'] 142))
      have HNE := Lib.hid (show some w.heap.size ≠ some wr.heap.size from by have := HXR.out.lt; simp; omega)
      have HLH := Lib.hid (show (hdrB 4 k d v 0).length = k + 2 from by simp [hdrB, ptsN, codL_len])
      generalize hz : wr.heap.size = bw at *
      clear hz
      generalize wr.alloc (.cells #[.slice A' (hdrB 4 k d v 0).length c'] 142) = w4 at *
      clear HXR HB13' HO4 HB
      go_loopw [95] (fun ir wq => ∃ m : Nat, m ≤ k ∧ ir = .int .i64 (m : Int) ∧ Wr wq w1.heap.size bw (hdrB 4 k d v 0 ++ rgsB Q F G m) ∧ Fr w1.heap.size (some bw) w4 wq) (fun i _ => k - (intOf i).toNat)
      case atStart => exact ⟨0, by omega, rfl, by simpa [rgsB] using HW4.out, Fr.refl _ _ _⟩
      case round =>
        obtain ⟨m, hm, rfl, hw, hfr⟩ := hrel
        have HWR := Lib.hid hw; have HFR := Lib.hid hfr; clear hw hfr
        have HBW := Lib.hid (HB14.out.trans HFR.out.below)
        have HB := Lib.hid (HB1.out.trans (HBW.out.mono HB1.out.size))
        by_cases hlt : m < k
        · have p0 : wr.cell? ⟨b, off + m * 3, none⟩ = some (.bool (d m)) := (HB.out.cell (p := ⟨b, off + m * 3, none⟩) HBL.out).trans (HC.out m hlt).1
          have p1 : wr.cell? ⟨b, off + m * 3 + 1, none⟩ = some (.int .i64 (v m)) := (HB.out.cell (p := ⟨b, off + m * 3 + 1, none⟩) HBL.out).trans (HC.out m hlt).2.1
          have p2 : wr.cell? ⟨b, off + m * 3 + 2, none⟩ = some (.slice (Q m).1 (Q m).2.1 (Q m).2.2) := (HB.out.cell (p := ⟨b, off + m * 3 + 2, none⟩) HBL.out).trans (HC.out m hlt).2.2
          have hms := Lib.hid (show k - (intOf (.int .i64 ((m : Int) + 1))).toNat < k - (intOf (.int .i64 (m : Int))).toNat from by simp [intOf]; omega)
          have HLN := Lib.hid (show (hdrB 4 k d v 0 ++ rgsB Q F G m).length ≤ 500000 from by have := rgsB_short F G (v := v) (n := k) HO.out.num (k := m) (by omega) (by omega); rw [List.length_append, HLH.out]; omega)
          have HQN := Lib.hid (show (Q m).2.1 ≤ 10000 from by have := HO.out.num m hlt; have := szf_range (v m); omega)
          go_wp2_with fail
          clear p0 p1 p2
          have B9 := Lib.hid (show Below wr.heap.size wr (wr.alloc (.cells #[.bool (d m), .int .i64 (v m), .slice (Q m).1 (Q m).2.1 (Q m).2.2] 48)) from below_al below_rf)
          refine (each_pts w1 w1.heap.size bw (Q m).1 (Q m).2.1 (Q m).2.2 (F m) (G m) HQN.out _ HLN.out _ (Nat.le_trans HBW.out.size B9.out.size) (Nat.le_refl _) ((HP.out.pts m hlt).below HB1.out (Nat.le_refl _)) (HBW.out.trans (B9.out.mono HBW.out.size)) (HWR.out.below B9.out (Nat.le_refl _))).mono ?_
          rintro e w5 ⟨rfl, h5, g5⟩
          have HW5 := Lib.hid h5; have HF5 := Lib.hid ((HFR.out.alloc HBW.out.size (.cells #[.bool (d m), .int .i64 (v m), .slice (Q m).1 (Q m).2.1 (Q m).2.2] 48)).trans g5); clear h5 g5
          go_wp2_with fail
          go_roundw
          case rel => exact ⟨m + 1, hlt, by go_num, by rw [rgsB, ← List.append_assoc]; exact HW5.out, HF5.out⟩
          case measure => exact hms.out
        · obtain rfl : m = k := by omega
          have HX5 := Lib.hid (HFR.out.keep _ _ _ (by decide) HNE.out HX4.out)
          have c5 := HX5.out.cell 5 (v := .slice PA 1 pc) rfl
          have HLN := Lib.hid (show (hdrB 4 m d v 0 ++ rgsB Q F G m).length ≤ 500000 from by have := rgsB_short F G (v := v) (n := m) HO.out.num (k := m) (by omega) (by omega); rw [List.length_append, HLH.out]; omega)
          go_wp2_with fail
          clear c5
          refine (each_pts w1 w1.heap.size bw PA 1 pc f g (by decide) _ HLN.out _ HBW.out.size (Nat.le_refl _) (HPP.out.below HB1.out (Nat.le_refl _)) HBW.out HWR.out).mono ?_
          rintro e w5 ⟨rfl, h5, g5⟩
          have HW5 := Lib.hid h5; have HX6 := Lib.hid (g5.keep _ _ _ (by decide) HNE.out HX5.out); have HB15 := Lib.hid (HBW.out.trans g5.below); clear h5 g5
          have c6 := HX6.out.cell 6 (v := .slice QA 0 qc) rfl
          go_wp2_with fail
          refine (each_qus0 QA qc _ _).mono ?_
          rintro e w6 ⟨rfl, rfl⟩
          obtain ⟨-, v5, hbw, hov⟩ := HW5.out
          have cw := hbw.cell 0 (v := v5) rfl
          clear hbw hov
          go_wp2_with fail
          go_ret2
          exact ⟨⟨_, rfl⟩, HB1.out.trans (HB15.out.mono HB1.out.size)⟩
end Go.Proofs.YtjdiilkljgljkaaGreatDoor
