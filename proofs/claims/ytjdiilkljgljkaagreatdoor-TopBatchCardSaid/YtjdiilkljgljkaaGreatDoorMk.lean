/- Part k of the lemmas of TopBatch: contracts of functions of the program, and plain laws of numbers, bytes and memory. -/
import Derived.Test.YtjdiilkljgljkaaGreatDoorMc
import Derived.Test.YtjdiilkljgljkaaGreatDoorMj
import Derived.Laws.MakeOwn
import Derived.Test.YtjdiilkljgljkaaGreatDoorMg
import Derived.Test.YtjdiilkljgljkaaGreatDoorMi
import Derived.Test.YtjdiilkljgljkaaGreatDoorMb
import Derived.Lib.MinMax
import Derived.Test.YtjdiilkljgljkaaGreatDoorMh
import Derived.Test.YtjdiilkljgljkaaGreatDoorMa
set_option maxHeartbeats 4000000
namespace Go.Proofs.YtjdiilkljgljkaaGreatDoor
set_option linter.unusedVariables false
set_option linter.unusedSimpArgs false
open Go.RowKit Wd Go.Shelf
attribute [local go_sem] Oper.semAt_some
theorem ZjK : (Tryz.prog.info? 86).map (fun i => (i.zero, i.size, i.bytes)) = some (some (.agg #[.int .u64 0, .int .u64 0]), 2, 16) := by kernel_rfl
theorem Zdt (z : Nat) (hz : z ≤ 1000) (w : World) : (Instr.makeSlice 53 (.int .i64 (z : Int)) (.int .i64 (z : Int))).run Tryz.prog w = .ok (.slice (some ⟨w.heap.size, 0, none⟩) z z) (w.alloc (.cells (madeCells #[.int .u64 0, .int .u64 0] (z * 2)) 86)) := by
 obtain ⟨i0, hi0, hz0, hz1, hz2⟩ := info_parts ZjK
 have h := run_make (P := Tryz.prog) w 53 86 i0 _ Tryz.underlying53 hi0 hz0 .i64 .i64 (z : Int) (z : Int) (by omega) (Int.le_refl _) (by rw [hz2]; omega) (by omega)
 rw [hz1] at h
 exact h
structure Re1 (w : World) (b o : Nat) (k : Int) : Prop where
 lt : b < w.heap.size
 c0 : w.cell? ⟨b, o, none⟩ = some (.int .u64 (rl k))
 c1 : w.cell? ⟨b, o + 1, none⟩ = some (.int .u64 (ri k))
theorem Re1.below {w w' : World} {B b o : Nat} {k : Int} (h : Re1 w b o k) (hb : Below B w w') (hB : w.heap.size ≤ B) : Re1 w' b o k := by
 have hlt := h.lt
 exact ⟨Nat.lt_of_lt_of_le h.lt hb.size, (hb.cell (p := ⟨b, o, none⟩) (by show b < B; omega)).trans h.c0, (hb.cell (p := ⟨b, o + 1, none⟩) (by show b < B; omega)).trans h.c1⟩
theorem Re1.of {w : World} {g n i : Nat} {cur : Array Value} {F : Nat → Int} {t : TypeId} (hb : Bx w g cur t) (hr : RowE cur 2 (n * 2) n (reE F)) (hi : i < n) : Re1 w g (i * 2) (F i) :=
 ⟨hb.lt, hb.cell _ (hr.at_ i hi 0 (by decide)), hb.cell _ (hr.at_ i hi 1 (by decide))⟩
theorem ZhA {cur : Array Value} {n i : Nat} {F : Nat → Int} (h : RowE cur 2 (n * 2) n (reE F)) (hi : i < n) : RowE ((cur.setIfInBounds (i * 2) (.int .u64 (rl (F i)))).setIfInBounds (i * 2 + 1) (.int .u64 (ri (F i)))) 2 (n * 2) n (reE F) := by
 have hs := h.size
 refine ⟨by simp [hs], fun q hq j hj => ?_⟩
 have hj2 : j = 0 ∨ j = 1 := by omega
 by_cases e : q = i
 ·subst e
  rcases hj2 with rfl | rfl
  ·rw [Array.getElem?_setIfInBounds_ne (by omega), Nat.add_zero, Array.getElem?_setIfInBounds_self_of_lt (by omega)]; rfl
  ·rw [Array.getElem?_setIfInBounds_self_of_lt (by simp; omega)]; rfl
 ·rw [Array.getElem?_setIfInBounds_ne (by omega), Array.getElem?_setIfInBounds_ne (by omega)]; exact h.at_ q hq j hj
theorem Zj7 {F : Fence} {m : Nat} {P : Program} {c : Code} {Q : Exit → Act → World → Prop} {a : Act} {w : World} (h : ∀ A0 d, a = ⟨A0, d⟩ → c.wpIn F m P Q ⟨A0, d⟩ w) : c.wpIn F m P Q a w := h a.tmps a.defers rfl
set_option maxRecDepth 100000 in
set_option maxHeartbeats 8000000 in
theorem Zfu (A : Option Addr) (n c : Nat) (h : Nat → Int) (h1 : 1 ≤ n) (h2 : n ≤ 100) (w : World) (hr : Rcs w A n c h) :
  Calls Tryz.prog 121 #[.pointer none, .slice A n c] w fun e w' => (∃ g h', e = .returned (.slice (some ⟨g, 0, none⟩) n n) ∧ w.heap.size ≤ g ∧ IsSort h n h' ∧ Rcs w' (some ⟨g, 0, none⟩) n n h') ∧ Below w.heap.size w w' := by
 obtain ⟨K, hK⟩ : ∃ K, K = Lib.bitLen (n - 1) := ⟨_, rfl⟩
 obtain ⟨z, hz⟩ : ∃ z, z = 2 ^ Lib.bitLen (n - 1) := ⟨_, rfl⟩
 have hK7 : K ≤ 7 := by rw [hK]; exact Lib.bitLen_le (n - 1) 7 (by decide) (by omega)
 have hzK : 2 ^ K = z := by rw [hz, hK]
 have hnz : n ≤ z := by have := Zed 63 (n - 1) (by omega) (by decide); rw [hz]; omega
 have hz7 : z ≤ 128 := by rw [← hzK]; exact Nat.pow_le_pow_right (n := 2) (by decide) hK7
 have HSZ_ := η (Zfo n z h1 (by omega) hz)
 have hcp := hr.cap; have hmx := hr.max
 unfold maxLen at hmx
 obtain ⟨b, off, rfl, hbl, hc_⟩ := hr.at_ (by omega)
 have FR := η hr
 clear hr hbl hc_ hz hK
 have hmk := Zdt z (by omega)
 have HB0 := η (Below.refl w.heap.size w)
 refine (callsIn_wide (n := 8)).1 ?_
 refine callsIn_of_wp_marks Tryz.func121 rfl trivial ?_ rfl
 simp only [Tryz.ntmps121, List.size_toArray, List.length_cons, List.length_nil, Nat.reduceAdd, Nat.reduceSub, Array.replicate_succ, Array.replicate_zero, List.push_toArray, List.append_toArray, List.nil_append, List.cons_append]
 gi_wp2_with fail
 try refine ⟨trivial, ?_⟩
 refine CallsIn.mono (n := _) (callsIn_wide.2 (HSZ_.out _)) ?_
 rintro e w2 ⟨rfl, rfl⟩
 have q0 : ¬ ((z : Int) = 0) := by omega
 gi_wp2_with fail
 have HT3 := η (show Bx (((w.alloc (.cells #[.pointer none] 98)).alloc (.cells (madeCells #[.int .u64 0, .int .u64 0] (z * 2)) 86)).alloc (.cells #[.slice (some ⟨w.heap.size + 1, 0, none⟩) z z] 53)) w.heap.size #[.pointer none] 98 from ((Bx.new _ _ _).alloc _).alloc _)
 have HG3 := η (show Bx (((w.alloc (.cells #[.pointer none] 98)).alloc (.cells (madeCells #[.int .u64 0, .int .u64 0] (z * 2)) 86)).alloc (.cells #[.slice (some ⟨w.heap.size + 1, 0, none⟩) z z] 53)) (w.heap.size + 1) (madeCells #[.int .u64 0, .int .u64 0] (z * 2)) 86 from (Jb (by simp)).alloc _)
 have HO3 := η (show Bx (((w.alloc (.cells #[.pointer none] 98)).alloc (.cells (madeCells #[.int .u64 0, .int .u64 0] (z * 2)) 86)).alloc (.cells #[.slice (some ⟨w.heap.size + 1, 0, none⟩) z z] 53)) (w.heap.size + 1 + 1) #[.slice (some ⟨w.heap.size + 1, 0, none⟩) z z] 53 from Jb (by simp))
 have HB3 := η (show Below w.heap.size w (((w.alloc (.cells #[.pointer none] 98)).alloc (.cells (madeCells #[.int .u64 0, .int .u64 0] (z * 2)) 86)).alloc (.cells #[.slice (some ⟨w.heap.size + 1, 0, none⟩) z z] 53)) from J8 (J8 (J8 J0)))
 generalize (((w.alloc (.cells #[.pointer none] 98)).alloc (.cells (madeCells #[.int .u64 0, .int .u64 0] (z * 2)) 86)).alloc (.cells #[.slice (some ⟨w.heap.size + 1, 0, none⟩) z z] 53)) = w3 at *
 have HCP : ∃ w4, (Builtin.copy_ #[53, 53] 3 #[.slice (some ⟨w.heap.size + 1, 0, none⟩) z z, .slice (some ⟨b, off, none⟩) n c]).run Tryz.prog w3 = .ok (goInt n) w4 ∧ Hid (Bx w4 w.heap.size #[.pointer none] 98) ∧ Hid (∃ cur, Bx w4 (w.heap.size + 1) cur 86 ∧ RowE cur 2 (z * 2) z (reE (padK h n))) ∧ Hid (Bx w4 (w.heap.size + 1 + 1) #[.slice (some ⟨w.heap.size + 1, 0, none⟩) z z] 53) ∧ Hid (Below w.heap.size w w4) := by
  have hs := ZaQ h n
  have hq := ZdY (P := Tryz.prog) w3 53 53 3 86 (w.heap.size + 1) 0 z z ⟨b, off, none⟩ n c n _ 86 (recL h n) Tryz.underlying53 (by kernel_rfl) HG3.out (Nat.min_eq_left hnz).symm hs (Zj6 (FR.out.below HB3.out ν)) (by rw [hs, size_madeCells]; omega) (Zft h n)
  have e : ((madeCells #[Value.int .u64 0, .int .u64 0] (z * 2)).toList.take 0 ++ recL h n ++ (madeCells #[Value.int .u64 0, .int .u64 0] (z * 2)).toList.drop (0 + (recL h n).length)).toArray = ((recL h n) ++ (madeCells #[Value.int .u64 0, .int .u64 0] (z * 2)).toList.drop (n * 2)).toArray := by rw [hs, Nat.zero_add]; rfl
  rw [e] at hq
  refine ⟨_, hq, η ?_, η ⟨_, ?_, Zie hnz⟩, η ?_, η ?_⟩
  ·exact (setRow_other _ _ _ _ (by omega)).trans HT3.out
  ·exact setRow_heap _ _ _ _ _ _ HG3.out
  ·exact (setRow_other _ _ _ _ (by omega)).trans HO3.out
  ·exact below_setRow HB3.out (by omega) _
 obtain ⟨w4, hcp4, HT4, HG4, HO4, HB4⟩ := HCP
 have hmk2 := hmk
 clear HT3 HG3 HO3 hmk hmk2
 rw [hcp4]
 have c0 := HO4.out.cell 0 (v := .slice (some ⟨w.heap.size + 1, 0, none⟩) z z) rfl
 go_simp
 gi_wp2_with fail
 clear HB3 hcp4 c0
 gi_loopw [21] (fun iv wr => ∃ i : Nat, i ≤ z ∧ iv = .int .i64 (i : Int) ∧ (∃ cur, Bx wr (w.heap.size + 1) cur 86 ∧ RowE cur 2 (z * 2) z (reE (padK h n))) ∧ Bx wr w.heap.size #[.pointer none] 98 ∧ Bx wr (w.heap.size + 1 + 1) #[.slice (some ⟨w.heap.size + 1, 0, none⟩) z z] 53 ∧ Below w.heap.size w wr) (fun i _ => z - (intOf i).toNat)
 case atStart => exact ⟨0, Nat.zero_le _, rfl, HG4.out, HT4.out, HO4.out, HB4.out⟩
 case round =>
  clear HG4 HT4 HO4 HB4
  obtain ⟨i, hi, rfl, ⟨cur, hgx, hre⟩, htx, hox, hbx⟩ := hrel
  have FG := η hgx; have HRE := η hre; have FN := η htx; have FO := η hox; have HBW := η hbx; clear hgx hre htx hox hbx
  by_cases hil : i < z
  ·have q3 : (i : Int) < (z : Int) := by omega
   have hms := η (Ziw hil)
   have FE := η (Re1.of FG.out HRE.out hil)
   have HKI := η (Zd4 FR.out.isk i)
   have HRS := η (ZhA HRE.out hil)
   generalize hpk : padK h n i = pk at FE HKI HRS
   clear hpk
   gi_wp2_with fail
   refine wpIn_region_any (by kernel_rfl) ?_
   change wpAnyIn _ _ _ _ _ _ _ _ _ (World.drew _)
   have RB5 := η (Je wr)
   refine Jk WideF.wide (fun a b => Below a.heap.size a b) (fun _ => J0) (fun _ _ _ h k => J6 h k) [⟨0, 24, fun z_ _ => z_ = .slice (some ⟨w.heap.size + 1, 0, none⟩) z z⟩, ⟨1, 25, fun z_ _ => z_ = .int .i64 (i : Int)⟩, ⟨2, 26, fun z_ _ => z_ = .slice (some ⟨w.heap.size + 1, 0, none⟩) z z⟩, ⟨3, 27, fun z_ _ => z_ = .int .i64 (i : Int)⟩, ⟨4, 28, fun z_ _ => z_ = .pointer (some ⟨w.heap.size + 1, i * 2, none⟩)⟩, ⟨5, 29, fun z_ _ => z_ = .agg #[.int .u64 (rl pk), .int .u64 (ri pk)]⟩, ⟨6, 30, fun z_ _ => z_ = .agg #[.int .u64 (rl pk), .int .u64 (ri pk)]⟩] 7 (by kernel_rfl) ?_ ?_ ?_
   ·refine ⟨?_, ?_, ?_, ?_, ?_, ?_, ?_, trivial⟩
    all_goals (intro x w w' hb h; first | exact h | (obtain ⟨b_, h1, h2, h3⟩ := h; exact ⟨b_, h1, h2.below hb ν, h3.below hb ν⟩) | (obtain ⟨b_, h1, h2⟩ := h; exact ⟨b_, h1, h2.below hb ν⟩))
   ·refine ⟨?_, ?_, ?_, ?_, ?_, ?_, ?_, trivial⟩
    ·intro a wz K hb ht hd hK
     have hbw := η (J6 RB5.out hb); clear hb
     have hx6 := (ht 6 rfl).trans rfl
     have es6 : a.tmps.getD 6 undef = _ := J7 hx6; clear hx6
     clear ht hd
     have zc0 := (FO.out.below hbw.out ν).cell 0 (v := .slice (some ⟨w.heap.size + 1, 0, none⟩) z z) rfl
     have HK := η hK; clear hK
     refine oP (fun K' HK' => ?_)
     go_simp
     exact HK'.out _ _ (HK.out _ _ J0 rfl)
    ·intro a wz K hb ht hd hK
     have hbw := η (J6 RB5.out hb); clear hb
     have hx7 := (ht 7 rfl).trans rfl
     have es7 : a.tmps.getD 7 undef = _ := J7 hx7; clear hx7
     clear ht hd
     have HK := η hK; clear hK
     refine oP (fun K' HK' => ?_)
     go_simp
     exact HK'.out _ _ (HK.out _ _ J0 rfl)
    ·intro a wz K hb ht hd hK
     have hbw := η (J6 RB5.out hb); clear hb
     have hx6 := (ht 6 rfl).trans rfl
     have es6 : a.tmps.getD 6 undef = _ := J7 hx6; clear hx6
     clear ht hd
     have zc0 := (FO.out.below hbw.out ν).cell 0 (v := .slice (some ⟨w.heap.size + 1, 0, none⟩) z z) rfl
     have HK := η hK; clear hK
     refine oP (fun K' HK' => ?_)
     go_simp
     exact HK'.out _ _ (HK.out _ _ J0 rfl)
    ·intro a wz K hb ht hd hK
     have hbw := η (J6 RB5.out hb); clear hb
     have hx7 := (ht 7 rfl).trans rfl
     have es7 : a.tmps.getD 7 undef = _ := J7 hx7; clear hx7
     clear ht hd
     have HK := η hK; clear hK
     refine oP (fun K' HK' => ?_)
     go_simp
     exact HK'.out _ _ (HK.out _ _ J0 rfl)
    ·intro a wz K hb ht hd hK
     have hbw := η (J6 RB5.out hb); clear hb
     obtain ⟨x26, hx26, hp26⟩ := hd 2 _ rfl (by kernel_rfl)
     obtain rfl := hp26
     have es26 : a.tmps.getD 26 undef = _ := J7 hx26; clear hx26
     obtain ⟨x27, hx27, hp27⟩ := hd 3 _ rfl (by kernel_rfl)
     obtain rfl := hp27
     have es27 : a.tmps.getD 27 undef = _ := J7 hx27; clear hx27
     clear ht hd
     have HK := η hK; clear hK
     refine oP (fun K' HK' => ?_)
     go_simp
     exact HK'.out _ _ (HK.out _ _ J0 rfl)
    ·intro a wz K hb ht hd hK
     have hbw := η (J6 RB5.out hb); clear hb
     obtain ⟨x28, hx28, hp28⟩ := hd 4 _ rfl (by kernel_rfl)
     obtain rfl := hp28
     have es28 : a.tmps.getD 28 undef = _ := J7 hx28; clear hx28
     clear ht hd
     have zc0 := (FE.out.below hbw.out ν).c0
     have zc1 := (FE.out.below hbw.out ν).c1
     have HK := η hK; clear hK
     refine oP (fun K' HK' => ?_)
     go_simp
     exact HK'.out _ _ (HK.out _ _ J0 rfl)
    ·intro a wz K hb ht hd hK
     have hbw := η (J6 RB5.out hb); clear hb
     obtain ⟨x29, hx29, hp29⟩ := hd 5 _ rfl (by kernel_rfl)
     obtain rfl := hp29
     have es29 : a.tmps.getD 29 undef = _ := J7 hx29; clear hx29
     clear ht hd
     have HK := η hK; clear hK
     refine oP (fun K' HK' => ?_)
     go_simp
     refine (ZaP pk HKI.out _).mono ?_
     rintro e w1 ⟨rfl, B⟩
     go_wp2_with fail
     exact HK'.out _ _ (HK.out _ _ B rfl)
   intro w6 X hb hv
   simp only [List.foldl_cons, List.foldl_nil, Act.put, List.setIfInBounds_toArray, List.set_cons_zero, List.set_cons_succ, List.toList_toArray, List.drop_succ_cons, List.drop_zero]
   obtain ⟨hv0, hv1, hv2, hv3, hv4, hv5, hv6, -⟩ := hv
   have hV0 : (fun z_ _ => z_ = .slice (some ⟨w.heap.size + 1, 0, none⟩) z z) (X 24) w6 := hv0; clear hv0; have hv0 := hV0; clear hV0; generalize X 24 = X24 at *
   have hV1 : (fun z_ _ => z_ = .int .i64 (i : Int)) (X 25) w6 := hv1; clear hv1; have hv1 := hV1; clear hV1; generalize X 25 = X25 at *
   have hV2 : (fun z_ _ => z_ = .slice (some ⟨w.heap.size + 1, 0, none⟩) z z) (X 26) w6 := hv2; clear hv2; have hv2 := hV2; clear hV2; generalize X 26 = X26 at *
   have hV3 : (fun z_ _ => z_ = .int .i64 (i : Int)) (X 27) w6 := hv3; clear hv3; have hv3 := hV3; clear hV3; generalize X 27 = X27 at *
   have hV4 : (fun z_ _ => z_ = .pointer (some ⟨w.heap.size + 1, i * 2, none⟩)) (X 28) w6 := hv4; clear hv4; have hv4 := hV4; clear hV4; generalize X 28 = X28 at *
   have hV5 : (fun z_ _ => z_ = .agg #[.int .u64 (rl pk), .int .u64 (ri pk)]) (X 29) w6 := hv5; clear hv5; have hv5 := hV5; clear hV5; generalize X 29 = X29 at *
   have hV6 : (fun z_ _ => z_ = .agg #[.int .u64 (rl pk), .int .u64 (ri pk)]) (X 30) w6 := hv6; clear hv6; have hv6 := hV6; clear hV6; generalize X 30 = X30 at *
   obtain rfl := hv0
   obtain rfl := hv1
   obtain rfl := hv2
   obtain rfl := hv3
   obtain rfl := hv4
   obtain rfl := hv5
   obtain rfl := hv6
   have RC := η (J6 RB5.out hb); clear hb
   have FN_6 := η (FN.out.below RC.out ν)
   have FO_6 := η (FO.out.below RC.out ν)
   have FG_6 := η (FG.out.below RC.out ν)
   have FE_6 := η (FE.out.below RC.out ν)
   have HB6 := η (HBW.out.trans (RC.out.mono HBW.out.size))
   clear HBW FN FO FG FE RB5
   have c0 := FE_6.out.c0; have c1 := FE_6.out.c1; have z0 := FG_6.out.free (i * 2); have z1 := FG_6.out.free (i * 2 + 1)
   gi_wp2_with fail
   clear c0 c1 z0 z1
   go_roundw
   case rel => exact ⟨i + 1, hil, by go_num, ⟨_, (FG_6.out.set (i * 2) _).set (i * 2 + 1) _, HRS.out⟩, (FN_6.out.other (a := ⟨w.heap.size + 1, i * 2, none⟩) _ (show w.heap.size ≠ w.heap.size + 1 from by omega)).other (a := ⟨w.heap.size + 1, i * 2 + 1, none⟩) _ (show w.heap.size ≠ w.heap.size + 1 from by omega), (FO_6.out.other (a := ⟨w.heap.size + 1, i * 2, none⟩) _ (show w.heap.size + 1 + 1 ≠ w.heap.size + 1 from by omega)).other (a := ⟨w.heap.size + 1, i * 2 + 1, none⟩) _ (show w.heap.size + 1 + 1 ≠ w.heap.size + 1 from by omega), (HB6.out.setCell (p := ⟨w.heap.size + 1, i * 2, none⟩) (Nat.le_succ _) _).setCell (p := ⟨w.heap.size + 1, i * 2 + 1, none⟩) (Nat.le_succ _) _⟩
   case measure => exact hms.out
  ·obtain rfl : i = z := by omega
   gi_wp2_with fail
   try refine ⟨trivial, ?_⟩
   refine CallsIn.mono (n := _) (callsIn_wide.2 (ZfZ (i : Int) _)) ?_
   rintro e w5 ⟨rfl, rfl⟩
   gi_wp2_with fail
   have FN5 := η (show Bx (wr.alloc (.cells #[.int .i64 (i : Int)] 3)) w.heap.size #[.pointer none] 98 from FN.out.alloc _)
   have FO5 := η (show Bx (wr.alloc (.cells #[.int .i64 (i : Int)] 3)) (w.heap.size + 1 + 1) #[.slice (some ⟨w.heap.size + 1, 0, none⟩) i i] 53 from FO.out.alloc _)
   have FG5 := η (show Bx (wr.alloc (.cells #[.int .i64 (i : Int)] 3)) (w.heap.size + 1) cur 86 from FG.out.alloc _)
   have FV5 := η (show Bx (wr.alloc (.cells #[.int .i64 (i : Int)] 3)) wr.heap.size #[.int .i64 (i : Int)] 3 from Bx.new _ _ _)
   have FB5 := η (show Below w.heap.size w (wr.alloc (.cells #[.int .i64 (i : Int)] 3)) from J8 HBW.out)
   have HS5 := η (show (wr.alloc (.cells #[.int .i64 (i : Int)] 3)).heap.size = wr.heap.size + 1 from by simp)
   have HLO := η (show w.heap.size + 1 + 1 < wr.heap.size from FO.out.lt)
   generalize (wr.alloc (.cells #[.int .i64 (i : Int)] 3)) = W0 at *
   clear FN FO FG HBW
   refine Zj7 (fun A0 d hA => ?_)
   refine wpIn_rangeFunc_ownH rfl (by omega) (gf := 155) (lb := #[.pointer (some ⟨wr.heap.size, 0, none⟩)]) (by cases hA; rfl) trivial (enters_of Tryz.func155 (by kernel_rfl) rfl)
    (Zhp 7 wr.heap.size K i (by omega) hK7 hzK W0 FV5.out)
    KpN.trans (fun W l ob o' hl h hc hw => World.putObj_heap_other (by have := HS5.out; omega)) (Below.refl _ _) (fun _ => rfl)
    (fun (pre : List (Cm i)) W => (∃ cur, Bx W (w.heap.size + 1) cur 86 ∧ RowE cur 2 (i * 2) i (reE (appN (padK h n) (pre.map (fun y : Cm i => y.val))))) ∧ Bx W w.heap.size #[.pointer none] 98 ∧ Bx W (w.heap.size + 1 + 1) #[.slice (some ⟨w.heap.size + 1, 0, none⟩) i i] 53 ∧ Bx W wr.heap.size #[.int .i64 (i : Int)] 3 ∧ Below w.heap.size w W ∧ (∀ q, q < i → IsK (appN (padK h n) (pre.map (fun y : Cm i => y.val)) q))) (fun _ _ _ => False)
    (fun s X Y row hs hg hr => ⟨(by obtain ⟨cur, h1, h2⟩ := hs.1; exact ⟨cur, JJ h1 hg hr, h2⟩), JJ hs.2.1 hg hr, JJ hs.2.2.1 hg hr, JJ hs.2.2.2.1 hg hr, ownFrom_below (β := Unit) ν FB5.out.size () X Y row hs.2.2.2.2.1 hg hr, hs.2.2.2.2.2⟩)
    (fun _ _ _ _ _ hs _ _ => hs)
    ⟨⟨cur, FG5.out, HRE.out⟩, FN5.out, FO5.out, FV5.out, FB5.out, fun q _ => Zd4 FR.out.isk q⟩
    (fun (x1 : Cm i) a' W => ∃ Be, wr.heap.size + 1 ≤ Be ∧ Bx W Be #[.int .i64 (x1.val.1 : Int), .int .i64 (x1.val.2 : Int)] 207 ∧ a' = ⟨(A0.setIfInBounds 35 (cmpV x1.val)).setIfInBounds 8 (.pointer (some ⟨Be, 0, none⟩)), d⟩)
    (fun x1 a' _ X Y row hs hg hr => by obtain ⟨Be, h1, h2, h3⟩ := hs; exact ⟨Be, h1, JJ h2 hg hr, h3⟩) ?assign ?body ?done ?stop
   case stop => intro D cc pre W _ _ h _; exact h.elim
   case assign =>
    rintro l pre x1 W K_ ⟨⟨cur2, i1, i1'⟩, i2, i3, i4, i5, i6⟩ hK
    have H1 := η i1; have H1' := η i1'; have H2 := η i2; have H3 := η i3; have H4 := η i4; have H5 := η i5
    have HK := η hK; have H6 := η i6; clear hK i1 i1' i2 i3 i4 i5 i6
    have hed : cmpV x1.val = .agg #[.int .i64 (x1.val.1 : Int), .int .i64 (x1.val.2 : Int)] := rfl
    cases hA
    gi_wp2_with fail
    exact HK.out _ _ ((KeepsOthers.alloc _ _).from _) (Below.heap_alloc _ _ _ H4.out.lt) ⟨⟨cur2, H1.out.alloc _, H1'.out⟩, H2.out.alloc _, H3.out.alloc _, H4.out.alloc _, H5.out.alloc H5.out.size _, H6.out⟩ ⟨W.heap.size, H4.out.lt, Bx.new _ _ _, rfl⟩
   case done =>
    rintro D xs W hD hxs ⟨⟨cur2, i1, i1'⟩, i2, i3, i4, i5, i6⟩ hK
    rw [hxs] at i1' i6
    have H6 := η i6
    have H1 := η i1; have H1' := η i1'; have H5 := η i5; have HK := η hK; have HD := η hD
    have zO := i3.cell 0 (v := .slice (some ⟨w.heap.size + 1, 0, none⟩) i i) rfl
    clear i1 i1' i2 i3 i4 i5 i6 hK hD hxs
    cases hA
    gi_wp2_with fail
    refine ⟨by simp, .inl ⟨_, _, rfl, run_takeDeferred HK.out, ?_⟩⟩
    obtain ⟨h0, hs0⟩ := Zc4 h n
    have hDg : w.heap.size + 1 ≠ D := by have := HD.out; have := HS5.out; have := HLO.out; omega
    have hgx : ∀ o, Bx (W.putObj D o) (w.heap.size + 1) cur2 86 := fun o => (show (W.putObj D o).heap[w.heap.size + 1]? = W.heap[w.heap.size + 1]? from World.putObj_heap_other (by first | exact hDg | exact fun e => hDg e.symm)).trans H1.out
    have hrx : RowE cur2 2 (i * 2) n (reE (appN (padK h n) (stg K K))) := ⟨H1'.out.size, fun q hq j hj => H1'.out.at_ q (by omega) j hj⟩
    have hkx : ∀ q, q < n → IsK (appN (padK h n) (stg K K) q) := fun q hq => H6.out q (by omega)
    refine ⟨_, results_tmp rfl _ _ _, ⟨w.heap.size + 1, h0, rfl, by omega, hs0, ?_⟩, H5.out.trans (belowK_b (w := w) ν _ D _ _ (by have := HD.out; have := HS5.out; have := HLO.out; omega) HK.out rfl rfl)⟩
    exact (Zhu (hgx _) hrx ν (by unfold maxLen; omega) hkx).congr fun q hq => Zhz hzK hnz FR.out.isk hs0 hq
   case body =>
    rintro l pre ⟨⟨p, q⟩, hp, hq, hne⟩ a' W hl - ⟨⟨cur2, i1, i1'⟩, i2, i3, i4, i5, i6⟩ ⟨Be, hBe, bE, rfl⟩ hlen
    have HP := η (show p < i from hp); have HQ := η (show q < i from hq); have HNE := η (show p ≠ q from hne)
    have FG := η i1; have HRG := η i1'; have FN := η i2; have FO := η i3; have FV := η i4; have FVK := η i4; have H5 := η i5; have HBE := η hBe
    have FC := η (show Bx W Be #[.int .i64 (p : Int), .int .i64 (q : Int)] 207 from bE)
    have H6 := η i6
    have HAP := η (show appN (padK h n) ((pre ++ [(show Cm i from ⟨(p, q), hp, hq, hne⟩)]).map (fun y : Cm i => y.val)) = exch (appN (padK h n) (pre.map (fun y : Cm i => y.val))) p q from by rw [List.map_append, ZbY]; rfl)
    clear i1 i1' i2 i3 i4 i5 i6 bE hBe hl hlen
    have hed : cmpV (p, q) = .agg #[.int .i64 (p : Int), .int .i64 (q : Int)] := rfl
    cases hA
    simp only [List.setIfInBounds_toArray, List.set_cons_zero, List.set_cons_succ]
    have c0 := FC.out.cell 0 (v := .int .i64 (p : Int)) rfl; have c1 := FC.out.cell 1 (v := .int .i64 (q : Int)) rfl; have cn := FN.out.cell 0 (v := .pointer none) rfl
    gi_wp2_with fail
    try refine ⟨trivial, ?_⟩
    refine CallsIn.mono (n := _) (CallsIn.inRound l (callsIn_wide.2 (Ju 3 p q _))) ?_
    rintro e w9 ⟨rfl, rfl⟩
    clear c0 c1 cn
    have hpi := HP.out; have hqi := HQ.out
    gi_wp2_with fail
    refine wpIn_region_any (by kernel_rfl) ?_
    change wpAnyIn _ _ _ _ _ _ _ _ _ (World.drew _)
    have RB30 := η (Je W)
    refine Jk (WideF.round l) (fun a b => a = b) (fun _ => rfl) (fun _ _ _ h k => h.trans k) [⟨0, 42, fun z_ _ => z_ = .slice (some ⟨w.heap.size + 1, 0, none⟩) i i⟩, ⟨1, 43, fun z_ _ => z_ = .pointer (some ⟨Be, 0, none⟩)⟩, ⟨2, 44, fun z_ _ => z_ = .int .i64 (p : Int)⟩, ⟨3, 45, fun z_ _ => z_ = .pointer (some ⟨w.heap.size + 1, p * 2, none⟩)⟩, ⟨4, 46, fun z_ _ => z_ = .slice (some ⟨w.heap.size + 1, 0, none⟩) i i⟩, ⟨5, 47, fun z_ _ => z_ = .pointer (some ⟨Be, 1, none⟩)⟩, ⟨6, 48, fun z_ _ => z_ = .int .i64 (q : Int)⟩, ⟨7, 49, fun z_ _ => z_ = .pointer (some ⟨w.heap.size + 1, q * 2, none⟩)⟩] 8 (by kernel_rfl) ?_ ?_ ?_
    ·refine ⟨?_, ?_, ?_, ?_, ?_, ?_, ?_, ?_, trivial⟩
     all_goals (intro x w w' hb h; first | exact h | (obtain ⟨b_, h1, h2, h3⟩ := h; exact ⟨b_, h1, h2.below hb ν, h3.below hb ν⟩) | (obtain ⟨b_, h1, h2⟩ := h; exact ⟨b_, h1, h2.below hb ν⟩))
    ·refine ⟨?_, ?_, ?_, ?_, ?_, ?_, ?_, ?_, trivial⟩
     ·intro a wz K hb ht hd hK
      have hbw := η (show Below W.heap.size W wz from hb ▸ RB30.out); clear hb
      have hx6 := (ht 6 rfl).trans rfl
      have es6 : a.tmps.getD 6 undef = _ := J7 hx6; clear hx6
      clear ht hd
      have zc0 := (FO.out.below hbw.out ν).cell 0 (v := .slice (some ⟨w.heap.size + 1, 0, none⟩) i i) rfl
      have HK := η hK; clear hK
      refine oP (fun K' HK' => ?_)
      go_simp
      exact HK'.out _ _ (HK.out _ _ rfl rfl)
     ·intro a wz K hb ht hd hK
      have hbw := η (show Below W.heap.size W wz from hb ▸ RB30.out); clear hb
      have hx8 := (ht 8 rfl).trans rfl
      have es8 : a.tmps.getD 8 undef = _ := J7 hx8; clear hx8
      clear ht hd
      have HK := η hK; clear hK
      refine oP (fun K' HK' => ?_)
      go_simp
      exact HK'.out _ _ (HK.out _ _ rfl rfl)
     ·intro a wz K hb ht hd hK
      have hbw := η (show Below W.heap.size W wz from hb ▸ RB30.out); clear hb
      obtain ⟨x43, hx43, hp43⟩ := hd 1 _ rfl (by kernel_rfl)
      obtain rfl := hp43
      have es43 : a.tmps.getD 43 undef = _ := J7 hx43; clear hx43
      clear ht hd
      have zc0 := (FC.out.below hbw.out ν).cell 0 (v := .int .i64 (p : Int)) rfl
      have HK := η hK; clear hK
      refine oP (fun K' HK' => ?_)
      go_simp
      exact HK'.out _ _ (HK.out _ _ rfl rfl)
     ·intro a wz K hb ht hd hK
      have hbw := η (show Below W.heap.size W wz from hb ▸ RB30.out); clear hb
      obtain ⟨x42, hx42, hp42⟩ := hd 0 _ rfl (by kernel_rfl)
      obtain rfl := hp42
      have es42 : a.tmps.getD 42 undef = _ := J7 hx42; clear hx42
      obtain ⟨x44, hx44, hp44⟩ := hd 2 _ rfl (by kernel_rfl)
      obtain rfl := hp44
      have es44 : a.tmps.getD 44 undef = _ := J7 hx44; clear hx44
      clear ht hd
      have HK := η hK; clear hK
      refine oP (fun K' HK' => ?_)
      go_simp
      exact HK'.out _ _ (HK.out _ _ rfl rfl)
     ·intro a wz K hb ht hd hK
      have hbw := η (show Below W.heap.size W wz from hb ▸ RB30.out); clear hb
      have hx6 := (ht 6 rfl).trans rfl
      have es6 : a.tmps.getD 6 undef = _ := J7 hx6; clear hx6
      clear ht hd
      have zc0 := (FO.out.below hbw.out ν).cell 0 (v := .slice (some ⟨w.heap.size + 1, 0, none⟩) i i) rfl
      have HK := η hK; clear hK
      refine oP (fun K' HK' => ?_)
      go_simp
      exact HK'.out _ _ (HK.out _ _ rfl rfl)
     ·intro a wz K hb ht hd hK
      have hbw := η (show Below W.heap.size W wz from hb ▸ RB30.out); clear hb
      have hx8 := (ht 8 rfl).trans rfl
      have es8 : a.tmps.getD 8 undef = _ := J7 hx8; clear hx8
      clear ht hd
      have HK := η hK; clear hK
      refine oP (fun K' HK' => ?_)
      go_simp
      exact HK'.out _ _ (HK.out _ _ rfl rfl)
     ·intro a wz K hb ht hd hK
      have hbw := η (show Below W.heap.size W wz from hb ▸ RB30.out); clear hb
      obtain ⟨x47, hx47, hp47⟩ := hd 5 _ rfl (by kernel_rfl)
      obtain rfl := hp47
      have es47 : a.tmps.getD 47 undef = _ := J7 hx47; clear hx47
      clear ht hd
      have zc0 := (FC.out.below hbw.out ν).cell 1 (v := .int .i64 (q : Int)) rfl
      have HK := η hK; clear hK
      refine oP (fun K' HK' => ?_)
      go_simp
      exact HK'.out _ _ (HK.out _ _ rfl rfl)
     ·intro a wz K hb ht hd hK
      have hbw := η (show Below W.heap.size W wz from hb ▸ RB30.out); clear hb
      obtain ⟨x46, hx46, hp46⟩ := hd 4 _ rfl (by kernel_rfl)
      obtain rfl := hp46
      have es46 : a.tmps.getD 46 undef = _ := J7 hx46; clear hx46
      obtain ⟨x48, hx48, hp48⟩ := hd 6 _ rfl (by kernel_rfl)
      obtain rfl := hp48
      have es48 : a.tmps.getD 48 undef = _ := J7 hx48; clear hx48
      clear ht hd
      have HK := η hK; clear hK
      refine oP (fun K' HK' => ?_)
      go_simp
      exact HK'.out _ _ (HK.out _ _ rfl rfl)
    intro w31 X hb hv
    simp only [List.foldl_cons, List.foldl_nil, Act.put, List.setIfInBounds_toArray, List.set_cons_zero, List.set_cons_succ, List.toList_toArray, List.drop_succ_cons, List.drop_zero]
    obtain ⟨hv0, hv1, hv2, hv3, hv4, hv5, hv6, hv7, -⟩ := hv
    have hV0 : (fun z_ _ => z_ = .slice (some ⟨w.heap.size + 1, 0, none⟩) i i) (X 42) w31 := hv0; clear hv0; have hv0 := hV0; clear hV0; generalize X 42 = X42 at *
    have hV1 : (fun z_ _ => z_ = .pointer (some ⟨Be, 0, none⟩)) (X 43) w31 := hv1; clear hv1; have hv1 := hV1; clear hV1; generalize X 43 = X43 at *
    have hV2 : (fun z_ _ => z_ = .int .i64 (p : Int)) (X 44) w31 := hv2; clear hv2; have hv2 := hV2; clear hV2; generalize X 44 = X44 at *
    have hV3 : (fun z_ _ => z_ = .pointer (some ⟨w.heap.size + 1, p * 2, none⟩)) (X 45) w31 := hv3; clear hv3; have hv3 := hV3; clear hV3; generalize X 45 = X45 at *
    have hV4 : (fun z_ _ => z_ = .slice (some ⟨w.heap.size + 1, 0, none⟩) i i) (X 46) w31 := hv4; clear hv4; have hv4 := hV4; clear hV4; generalize X 46 = X46 at *
    have hV5 : (fun z_ _ => z_ = .pointer (some ⟨Be, 1, none⟩)) (X 47) w31 := hv5; clear hv5; have hv5 := hV5; clear hV5; generalize X 47 = X47 at *
    have hV6 : (fun z_ _ => z_ = .int .i64 (q : Int)) (X 48) w31 := hv6; clear hv6; have hv6 := hV6; clear hV6; generalize X 48 = X48 at *
    have hV7 : (fun z_ _ => z_ = .pointer (some ⟨w.heap.size + 1, q * 2, none⟩)) (X 49) w31 := hv7; clear hv7; have hv7 := hV7; clear hV7; generalize X 49 = X49 at *
    obtain rfl := hv0
    obtain rfl := hv1
    obtain rfl := hv2
    obtain rfl := hv3
    obtain rfl := hv4
    obtain rfl := hv5
    obtain rfl := hv6
    obtain rfl := hv7
    have RC := η (show Below W.heap.size W w31 from hb ▸ RB30.out)
    have HE := η hb; clear hb
    have FN_31 := η (FN.out.below RC.out ν)
    have FO_31 := η (FO.out.below RC.out ν)
    have FG_31 := η (FG.out.below RC.out ν)
    have FV_31 := η (FV.out.below RC.out ν)
    have FC_31 := η (FC.out.below RC.out ν)
    have HB31 := η (H5.out.trans (RC.out.mono H5.out.size))
    clear H5 FN FO FG FV FC RB30
    gi_wp2_with fail
    try refine ⟨trivial, ?_⟩
    generalize appN (padK h n) (pre.map (fun y : Cm i => y.val)) = F at *
    refine CallsIn.mono (n := _) (CallsIn.inRound l (callsIn_wide.2 (Zd3 (w.heap.size + 1) i p q F HP.out HQ.out HNE.out H6.out cur2 _ FG_31.out HRG.out))) ?_
    rintro e w9 ⟨rfl, ⟨cur9, hb9, hr9⟩, hg9⟩
    have G9 := η hg9; have B9 := η hb9; have R9 := η hr9; clear hg9 hb9 hr9
    gi_wp2_with fail
    have hbx : ∀ b' cs t, b' ≠ w.heap.size + 1 → Bx w31 b' cs t → Bx w9 b' cs t := fun b' cs t hne' hb => (G9.out.block b' hb.lt (by simpa using hne')).trans hb
    refine ⟨?_, ?_, ⟨cur9, B9.out, ?_⟩, hbx _ _ _ (by omega) FN_31.out, hbx _ _ _ (by omega) FO_31.out, hbx _ _ _ (by have := HLO.out; omega) FV_31.out, ZaI HB31.out (Nat.le_succ _) (by have := FG_31.out.lt; omega) G9.out, ?_⟩
    ·have hE : ∀ k : Nat, w31.heap[k]? = W.heap[k]? := fun k => by rw [← HE.out]; rfl
     refine ⟨Nat.le_trans (by rw [← HE.out]; exact Nat.le_refl _) G9.out.size, fun k o hk ho hc => ?_⟩
     rw [← hE k] at ho
     exact (G9.out.block k (Array.getElem?_eq_some_iff.1 ho).1 (by have := HLO.out; have := HS5.out; simp; omega)).trans ho
    ·exact (show w9.heap[wr.heap.size]? = _ from hbx _ _ _ (by have := HLO.out; omega) FV_31.out).trans (show W.heap[wr.heap.size]? = _ from FVK.out).symm
    ·rw [HAP.out]; exact R9.out
    ·rw [HAP.out]; exact Zic HP.out HQ.out HNE.out H6.out
end Go.Proofs.YtjdiilkljgljkaaGreatDoor
namespace Go.Proofs.YtjdiilkljgljkaaGreatDoor
set_option linter.unusedVariables false
set_option linter.unusedSimpArgs false
open Go.RowKit Wd
set_option maxRecDepth 100000 in
theorem ZdS (tb vb lb qb : Nat) (V : Bool) (A : Option Addr) (n c : Nat) (d : Nat → Bool) (v : Nat → Int) (Q : Nat → Option Addr × Nat × Nat) (F G : Nat → Nat → Int) (QA : Option Addr) (qn qc : Nat) (qf qg qd : Nat → Int) (i : Nat) (hi : i < qn) (w : World) (hT : TabM w)
  (bt : Bx w tb #[.pointer none] 98) (bv : Bx w vb #[.int .u64 (msk V)] 61) (bl : Bx w lb #[.slice A n c] 26) (bq : Bx w qb #[.slice QA qn qc] 30) (hr : Rgs w A n c d v Q) (hp : RgP w n Q F G) (ho : OkR n v Q) (hq : Qus w QA qn qc qf qg qd) :
  Calls Tryz.prog 135 #[.int .i64 (i : Int), .pointer (some ⟨tb, 0, none⟩), .pointer (some ⟨vb, 0, none⟩), .pointer (some ⟨lb, 0, none⟩), .pointer (some ⟨qb, 0, none⟩)] w fun e w' => e = .returned (.agg #[.int .u64 (rl (keyQ (V && memR d (lR v Q F G (qf i) (qg i)) n) (qd i))), .int .u64 (ri (keyQ (V && memR d (lR v Q F G (qf i) (qg i)) n) (qd i)))]) ∧ Below w.heap.size w w' := by
 have hcp := hq.cap; have hmx := hq.max
 unfold maxLen at hmx
 obtain ⟨b, off, rfl, hbl, hc⟩ := hq.at_ (by omega)
 have HIS := η (hq.isi i hi)
 have HQ1 := η (show Qu1 w b (off + i * 3) (qf i) (qg i) (qd i) from ⟨hbl, (hc i hi).1, (hc i hi).2.1, (hc i hi).2.2⟩)
 have HT := η hT; have BT := η bt; have BV := η bv; have BL := η bl; have BQ := η bq; have HR := η hr; have HP := η hp; have HO := η ho
 clear hT bt bv bl bq hr hp ho hq hbl hc
 have QC := η (show ∀ w', Below w.heap.size w w' → (w'.cell? ⟨tb, 0, none⟩ = some (.pointer none) ∧ w'.cell? ⟨vb, 0, none⟩ = some (.int .u64 (msk V)) ∧ w'.cell? ⟨lb, 0, none⟩ = some (.slice A n c) ∧ w'.cell? ⟨qb, 0, none⟩ = some (.slice (some ⟨b, off, none⟩) qn qc) ∧ w'.cell? ⟨b, off + i * 3, none⟩ = some (.int .i64 (qf i)) ∧ w'.cell? ⟨b, off + i * 3 + 1, none⟩ = some (.int .i64 (qg i)) ∧ w'.cell? ⟨b, off + i * 3 + 2, none⟩ = some (.int .u64 (qd i))) from fun w' hb =>
  ⟨(BT.out.below hb ν).cell 0 rfl, (BV.out.below hb ν).cell 0 rfl, (BL.out.below hb ν).cell 0 rfl, (BQ.out.below hb ν).cell 0 rfl, (HQ1.out.below hb HQ1.out.lt).c0, (HQ1.out.below hb HQ1.out.lt).c1, (HQ1.out.below hb HQ1.out.lt).c2⟩)
 obtain ⟨M, hM⟩ : ∃ M, memR d (lR v Q F G (qf i) (qg i)) n = M := ⟨_, rfl⟩
 rw [hM]
 have HM := η hM; clear hM
 have e1 := Zfr V M
 generalize hk1 : rl (keyQ (V && M) (qd i)) = X at *
 generalize hk2 : ri (keyQ (V && M) (qd i)) = Y at *
 have HK1 := η hk1; have HK2 := η hk2; clear hk1 hk2
 have HX := η (Bx.new w #[.int .u64 0, .int .u64 0] 86)
 have HB1 := η (show Below w.heap.size w (w.alloc (.cells #[.int .u64 0, .int .u64 0] 86)) from J8 J0)
 have ct := (BT.out.below HB1.out ν).cell 0 (v := .pointer none) rfl
 go_enter Tryz.func135, Tryz.ntmps135
 go_wp2_with fail
 refine (Ju 8 (i : Int) 0 _).mono ?_
 rintro e w2 ⟨rfl, rfl⟩
 clear ct
 generalize w.alloc (.cells #[.int .u64 0, .int .u64 0] 86) = w1 at *
 go_wp2_with fail
 refine wp_region_held_drew (S := fun w' => w'.cell? ⟨tb, 0, none⟩ = some (.pointer none) ∧ w'.cell? ⟨vb, 0, none⟩ = some (.int .u64 (msk V)) ∧ w'.cell? ⟨lb, 0, none⟩ = some (.slice A n c) ∧ w'.cell? ⟨qb, 0, none⟩ = some (.slice (some ⟨b, off, none⟩) qn qc) ∧ w'.cell? ⟨b, off + i * 3, none⟩ = some (.int .i64 (qf i)) ∧ w'.cell? ⟨b, off + i * 3 + 1, none⟩ = some (.int .i64 (qg i)) ∧ w'.cell? ⟨b, off + i * 3 + 2, none⟩ = some (.int .u64 (qd i))) (by kernel_rfl) (QC.out _ HB1.out.drew) (fun hHeld => ?_)
 refine tk 0 hHeld ?_
 refine tk 1 hHeld ?_
 refine tk 2 hHeld ?_
 refine tk 3 hHeld ?_
 refine tk 4 hHeld ?_
 refine tk 5 hHeld ?_
 refine tk 6 hHeld ?_
 refine tk 7 hHeld ?_
 refine tk 10 hHeld ?_
 refine tk 11 hHeld ?_
 refine tk 12 hHeld ?_
 refine tk 13 hHeld ?_
 refine tk 14 hHeld ?_
 refine cl 8 (fun K hK => ?_)
 go_simp
 refine (Zfe A n c d v Q F G (qf i) (qg i) HIS.out.1 HIS.out.2.1 _ (HT.out.below HB1.out.drew ν) (HR.out.below HB1.out.drew ν) (HP.out.below HB1.out.drew ν) HO.out).mono ?_
 rintro e w3 ⟨rfl, B⟩
 rw [HM.out]; have HX3 := η ((Jf HX.out).below B ν); have HB3 := η (HB1.out.drew.trans (B.mono (show w.heap.size ≤ _ from HB1.out.size))); clear B
 go_wp2_with fail
 refine hK.out _ _ (QC.out _ HB3.out) (fun hHeld2 => ?_)
 clear hK K hHeld; have hHeld := hHeld2; clear hHeld2
 try simp only [Act.put, List.setIfInBounds_toArray, List.set_cons_zero, List.set_cons_succ]
 refine tk 9 hHeld ?_
 refine tk 15 hHeld ?_
 refine cl 16 (fun K hK => ?_)
 go_simp
 refine (ZdR (V && M) (qd i) HIS.out.2.2 _).mono ?_
 rintro e w4 ⟨rfl, B⟩
 rw [HK1.out, HK2.out]; have HX4 := η (HX3.out.below B ν); have HB4 := η (HB3.out.trans (B.mono HB3.out.size)); clear B
 go_wp2_with fail
 refine hK.out _ _ (QC.out _ HB4.out) (fun hHeld2 => ?_)
 clear hK K hHeld; have hHeld := hHeld2; clear hHeld2
 try simp only [Act.put, List.setIfInBounds_toArray, List.set_cons_zero, List.set_cons_succ]
 refine cl 17 (fun K hK => ?_)
 have c0 := HX4.out.cell 0 (v := .int .u64 0) rfl; have c1 := HX4.out.cell 1 (v := .int .u64 0) rfl; have z0 := HX4.out.free 0; have z1 := HX4.out.free 1; go_simp; clear c0 c1 z0 z1
 skip
 skip
 refine hK.out _ _ (QC.out _ ((HB4.out.setCell (p := ⟨w.heap.size, 0, none⟩) ν _).setCell (p := ⟨w.heap.size, 1, none⟩) ν _)) (fun hHeld2 => ?_)
 clear hK K hHeld; have hHeld := hHeld2; clear hHeld2
 try simp only [Act.put, List.setIfInBounds_toArray, List.set_cons_zero, List.set_cons_succ]
 refine wpAnyH_done (by kernel_rfl) ?_ _
 clear hHeld
 have HR2 := η ((HX4.out.set 0 (.int .u64 X)).set 1 (.int .u64 Y))
 have q0 := HR2.out.cell 0 (v := .int .u64 X) rfl
 have q1 := HR2.out.cell 1 (v := .int .u64 Y) rfl
 clear e1
 go_wp2_with fail
 refine bodyPost_ret (v := .agg #[.int .u64 X, .int .u64 Y]) (by simp [results, Tryz.results135, go_sem, q0, q1]) rfl ⟨rfl, ?_⟩
 exact (HB4.out.setCell (p := ⟨w.heap.size, 0, none⟩) ν _).setCell (p := ⟨w.heap.size, 1, none⟩) ν _
def Jy (h : Nat → Int) : Nat → Nat
 | 0 => 0
 | k + 1 => Jy h k + (if h k < 18446744073709551616 then 1 else 0)
theorem Zas (h : Nat → Int) : ∀ k, Jy h k ≤ k
 | 0 => Nat.le_refl _
 | k + 1 => by have := Zas h k; rw [Jy]; split <;> omega
set_option maxRecDepth 100000 in
theorem ZeC (A : Option Addr) (n c : Nat) (h : Nat → Int) (hn : n ≤ 10000) (w : World) (hr : Rcs w A n c h) :
  Calls Tryz.prog 120 #[.pointer none, .slice A n c] w fun e w' => e = .returned (.int .u64 ((Jy h n : Nat) : Int)) ∧ Below w.heap.size w w' := by
 have HR := η hr; have hcp := hr.cap; have hmx := hr.max; clear hr
 unfold maxLen at hmx
 go_enter Tryz.func120, Tryz.ntmps120
 go_wp2_with fail
 go_loopw [5, 10] (fun cr ir wr => ∃ k s : Nat, k ≤ n ∧ s = Jy h k ∧ cr = .int .u64 (s : Int) ∧ ir = .int .i64 (k : Int) ∧ Below w.heap.size w wr) (fun _ i _ => n - (intOf i).toNat)
 case atStart => exact ⟨0, 0, Nat.zero_le _, rfl, rfl, rfl, J0⟩
 case round =>
  obtain ⟨k, s, hk, hs, rfl, rfl, hb⟩ := hrel
  have HB := η hb; have HS := η hs; have HSL := η (show s ≤ k from by rw [hs]; exact Zas h k); clear hb hs
  by_cases hlt : k < n
  ·obtain ⟨b, off, rfl, hbl, hc⟩ := HR.out.at_ (by omega)
   have c0 : wr.cell? ⟨b, off + k * 2, none⟩ = some (.int .u64 (rl (h k))) := (HB.out.cell (p := ⟨b, off + k * 2, none⟩) hbl).trans (hc k hlt).1
   have c1 : wr.cell? ⟨b, off + k * 2 + 1, none⟩ = some (.int .u64 (ri (h k))) := (HB.out.cell (p := ⟨b, off + k * 2 + 1, none⟩) hbl).trans (hc k hlt).2
   have hms := η (show n - (intOf (.int .i64 ((k : Int) + 1))).toNat < n - (intOf (.int .i64 (k : Int))).toNat from by simp [intOf]; omega)
   obtain ⟨x, hx⟩ : ∃ x, x = rl (h k) := ⟨_, rfl⟩
   have hxr : x = 0 ∨ x = 1 := by rw [hx]; exact ZaO _
   have HXX := η hx
   rw [← hx] at c0
   have HXR := η hxr
   generalize ri (h k) = y at *
   clear hbl hc hx hxr
   go_wp2_with fail
   clear c0 c1
   refine (Ju 1 (k : Int) 0 _).mono ?_
   rintro e w2 ⟨rfl, rfl⟩
   have HX := η (Bx.new wr #[.int .u64 x, .int .u64 y] 86)
   have HB1 := η (HB.out.alloc HB.out.size (.cells #[.int .u64 x, .int .u64 y] 86))
   generalize wr.alloc (.cells #[.int .u64 x, .int .u64 y] 86) = w1 at *
   have c0 := HX.out.cell 0 (v := .int .u64 x) rfl
   go_wp2_with fail
   refine (Zef x (by have := HXR.out; unfold IsW; omega) _).mono ?_
   rintro e w3 ⟨rfl, rfl⟩
   rw [show x % 2 = x from by have := HXR.out; omega]
   have e1 : IntKind.u64.wrap ((s : Int) + x) = (s : Int) + x := by have := HXR.out; have := HSL.out; rw [IntKind.wrap_u64]; omega
   clear c0
   go_wp2_with fail
   go_roundw
   case rel =>
    refine ⟨k + 1, s + x.toNat, hlt, ?_, ?_, by go_num, HB1.out⟩
    ·rw [Jy, ← HS.out, HXX.out]; unfold rl; split <;> rfl
    ·have := HXR.out; rcases this with rfl | rfl <;> simp
   case measure => exact hms.out
  ·obtain rfl : k = n := by omega
   go_wp2_with fail
   go_ret
   exact ⟨congrArg (fun q : Nat => Ending.returned (Value.int .u64 (q : Int))) HS.out, HB.out⟩
def Zag (V : Bool) (d : Nat → Bool) (v : Nat → Int) (Q : Nat → Option Addr × Nat × Nat) (F G : Nat → Nat → Int) (n : Nat) (qf qg qd : Nat → Int) (i : Nat) : Int := keyQ (V && memR d (lR v Q F G (qf i) (qg i)) n) (qd i)
set_option maxRecDepth 100000 in
theorem ZeD (A : Option Addr) (n c : Nat) (d : Nat → Bool) (v : Nat → Int) (Q : Nat → Option Addr × Nat × Nat) (F G : Nat → Nat → Int) (QA : Option Addr) (qn qc : Nat) (qf qg qd : Nat → Int) (h0 : 1 ≤ qn) (h9 : qn ≤ 1000) (w : World) (hT : TabM w) (hr : Rgs w A n c d v Q) (hp : RgP w n Q F G) (ho : OkR n v Q) (hq : Qus w QA qn qc qf qg qd) :
  Calls Tryz.prog 118 #[.pointer none, .slice A n c, .slice QA qn qc] w fun e w' => (∃ g, e = .returned (.tuple #[.int .u64 (msk (allB (vR v Q F G) n)), .slice (some ⟨g, 0, none⟩) qn qn]) ∧ Rcs w' (some ⟨g, 0, none⟩) qn qn (Zag (allB (vR v Q F G) n) d v Q F G n qf qg qd)) ∧ Below w.heap.size w w' := by
 have HT := η hT; have HR := η hr; have HP := η hp; have HO := η ho; have HQ := η hq
 have hcp := hq.cap; have hmx := hq.max
 unfold maxLen at hmx
 have HIS := η hq.isi
 clear hT hr hp ho hq
 have hmk := Zdt qn h9
 obtain ⟨V, hV⟩ : ∃ V, allB (vR v Q F G) n = V := ⟨_, rfl⟩
 rw [hV]
 have HV := η hV; clear hV
 obtain ⟨K, hK⟩ : ∃ K, Zag V d v Q F G n qf qg qd = K := ⟨_, rfl⟩
 rw [hK]
 have HKE := η hK; clear hK
 go_enter Tryz.func118, Tryz.ntmps118
 go_wp2_with fail
 have BT := η (show Bx (((w.alloc (.cells #[.pointer none] 98)).alloc (.cells #[.slice A n c] 26)).alloc (.cells #[.slice QA qn qc] 30)) w.heap.size #[.pointer none] 98 from ((Bx.new _ _ _).alloc _).alloc _)
 have BL := η (show Bx (((w.alloc (.cells #[.pointer none] 98)).alloc (.cells #[.slice A n c] 26)).alloc (.cells #[.slice QA qn qc] 30)) (w.heap.size + 1) #[.slice A n c] 26 from (Jb (by simp)).alloc _)
 have BQ := η (show Bx (((w.alloc (.cells #[.pointer none] 98)).alloc (.cells #[.slice A n c] 26)).alloc (.cells #[.slice QA qn qc] 30)) (w.heap.size + 1 + 1) #[.slice QA qn qc] 30 from Jb (by simp))
 have HB1 := η (show Below w.heap.size w (((w.alloc (.cells #[.pointer none] 98)).alloc (.cells #[.slice A n c] 26)).alloc (.cells #[.slice QA qn qc] 30)) from J8 (J8 (J8 J0)))
 have HT1 := η (HT.out.below HB1.out ν); have HR1 := η (HR.out.below HB1.out ν); have HP1 := η (HP.out.below HB1.out ν); have HQ1 := η (HQ.out.below HB1.out ν)
 generalize (((w.alloc (.cells #[.pointer none] 98)).alloc (.cells #[.slice A n c] 26)).alloc (.cells #[.slice QA qn qc] 30)) = w1 at *
 clear HT HR HP HQ
 refine (ZfV A n c d v Q F G _ HT1.out HR1.out HP1.out HO.out).mono ?_
 rintro e w2 ⟨rfl, B⟩
 rw [HV.out]
 have BT2 := η (BT.out.below B ν); have BL2 := η (BL.out.below B ν); have BQ2 := η (BQ.out.below B ν); have HB2 := η (HB1.out.trans (B.mono HB1.out.size)); have HT2 := η (HT1.out.below B ν); have HR2 := η (HR1.out.below B ν); have HP2 := η (HP1.out.below B ν); have HQ2 := η (HQ1.out.below B ν)
 have HLQ := η (show w.heap.size + 1 + 1 < w2.heap.size from BQ2.out.lt)
 clear B BT BL BQ HB1 HT1 HR1 HP1 HQ1
 have W4X := η (show Below w2.heap.size w2 (w2.alloc (.cells #[.int .u64 (msk V)] 61)) from J8 J0)
 have BV4 := η (show Bx (w2.alloc (.cells #[.int .u64 (msk V)] 61)) w2.heap.size #[.int .u64 (msk V)] 61 from Bx.new _ _ _)
 have BT4 := η (BT2.out.below W4X.out ν); have BL4 := η (BL2.out.below W4X.out ν); have BQ4 := η (BQ2.out.below W4X.out ν); have HB4 := η (HB2.out.trans (W4X.out.mono HB2.out.size)); have HT4 := η (HT2.out.below W4X.out ν); have HR4 := η (HR2.out.below W4X.out ν); have HP4 := η (HP2.out.below W4X.out ν); have HQ4 := η (HQ2.out.below W4X.out ν)
 clear BT2 BL2 BQ2 HB2 HT2 HR2 HP2 HQ2 W4X
 have cq2 := BQ4.out.cell 0 (v := .slice QA qn qc) rfl
 have cq := (BQ4.out.alloc (.cells (madeCells #[.int .u64 0, .int .u64 0] (qn * 2)) 86)).cell 0 (v := .slice QA qn qc) rfl
 go_wp2_with fail
 clear cq2 cq
 have HS4 := η (show (w2.alloc (.cells #[.int .u64 (msk V)] 61)).heap.size = w2.heap.size + 1 from by simp)
 generalize w2.alloc (.cells #[.int .u64 (msk V)] 61) = w4 at *
 rw [← HS4.out]
 have BG5 := η (Bx.new w4 (madeCells #[.int .u64 0, .int .u64 0] (qn * 2)) 86)
 have B5 := η (show Below w4.heap.size w4 (w4.alloc (.cells (madeCells #[.int .u64 0, .int .u64 0] (qn * 2)) 86)) from J8 J0)
 generalize w4.alloc (.cells (madeCells #[.int .u64 0, .int .u64 0] (qn * 2)) 86) = w5 at *
 have HKI := η (show ∀ i, i < qn → IsK (K i) from fun i hi => by rw [← HKE.out]; exact Zfq (HIS.out i hi).2.2)
 go_loopw [21] (fun ir wr => ∃ k : Nat, k ≤ qn ∧ ir = .int .i64 (k : Int) ∧ (∃ cur, Bx wr w4.heap.size cur 86 ∧ RowE cur 2 (qn * 2) k (reE K)) ∧ Below w4.heap.size w4 wr) (fun i _ => qn - (intOf i).toNat)
 case atStart => exact ⟨0, Nat.zero_le _, rfl, ⟨_, BG5.out, ⟨size_madeCells _ _, fun i hi => absurd hi (Nat.not_lt_zero _)⟩⟩, B5.out⟩
 case round =>
  obtain ⟨k, hk, rfl, ⟨cur, hgx, hre⟩, hb⟩ := hrel
  have HG := η hgx; have HRE := η hre; have HB := η hb; clear hgx hre hb
  by_cases hlt : k < qn
  ·have hms := η (show qn - (intOf (.int .i64 ((k : Int) + 1))).toNat < qn - (intOf (.int .i64 (k : Int))).toNat from by simp [intOf]; omega)
   go_wp2_with fail
   refine (ZdS w.heap.size w2.heap.size (w.heap.size + 1) (w.heap.size + 1 + 1) V A n c d v Q F G QA qn qc qf qg qd k hlt _ (HT4.out.below HB.out ν) (BT4.out.below HB.out ν) (BV4.out.below HB.out ν) (BL4.out.below HB.out ν) (BQ4.out.below HB.out ν) (HR4.out.below HB.out ν) (HP4.out.below HB.out ν) HO.out (HQ4.out.below HB.out ν)).mono ?_
   rintro e w7 ⟨rfl, B7⟩
   rw [show keyQ (V && memR d (lR v Q F G (qf k) (qg k)) n) (qd k) = K k from by rw [← HKE.out]; rfl]
   have HG7 := η (HG.out.below B7 ν); have HB7 := η (HB.out.trans (B7.mono HB.out.size)); clear B7 HG HB
   obtain ⟨v0, hv0⟩ : ∃ v, cur[k * 2]? = some v := ⟨_, Array.getElem?_eq_getElem (by rw [HRE.out.size]; omega)⟩
   obtain ⟨v1, hv1⟩ : ∃ v, cur[k * 2 + 1]? = some v := ⟨_, Array.getElem?_eq_getElem (by rw [HRE.out.size]; omega)⟩
   have c0 := HG7.out.cell (k * 2) (v := v0) hv0
   have c1 := HG7.out.cell (k * 2 + 1) (v := v1) hv1
   have z0 := HG7.out.free (k * 2)
   have z1 := HG7.out.free (k * 2 + 1)
   clear hv0 hv1
   have HRN := η (HRE.out.snoc (by omega) [.int .u64 (rl (K k)), .int .u64 (ri (K k))] rfl (fun j hj => by match j, hj with | 0, _ => rfl | 1, _ => rfl))
   generalize K k = kk at *
   go_wp2_with fail
   clear c0 c1 z0 z1
   go_roundw
   case rel => exact ⟨k + 1, hlt, by go_num, ⟨_, (HG7.out.set (k * 2) _).set (k * 2 + 1) _, HRN.out⟩, (HB7.out.setCell (p := ⟨w4.heap.size, k * 2, none⟩) ν _).setCell (p := ⟨w4.heap.size, k * 2 + 1, none⟩) ν _⟩
   case measure => exact hms.out
  ·obtain rfl : k = qn := by omega
   have cv := (BV4.out.below HB.out ν).cell 0 (v := .int .u64 (msk V)) rfl
   go_wp2_with fail
   go_ret2
   exact ⟨⟨_, rfl, Zhu HG.out HRE.out ν (by unfold maxLen; omega) HKI.out⟩, HB4.out.trans (HB.out.mono HB4.out.size)⟩
theorem Rcs.setFar {w : World} {g off n c k i : Nat} {x : Value} {h : Nat → Int} (a : Rcs w (some ⟨g, off, none⟩) n c h) (hne : g ≠ k) : Rcs (w.setCell ⟨k, i, none⟩ x) (some ⟨g, off, none⟩) n c h :=
 ⟨a.cap, a.max, a.isk, fun hn => by
  obtain ⟨b, o, e, hlt, hc⟩ := a.at_ hn
  obtain ⟨rfl, rfl⟩ : g = b ∧ off = o := by simpa using e
  refine ⟨g, off, rfl, by simpa using hlt, fun j hj => ⟨Jc (hc j hj).1 hne, Jc (hc j hj).2 hne⟩⟩⟩
set_option maxRecDepth 100000 in
theorem Zg1 (A : Option Addr) (n c : Nat) (d : Nat → Bool) (v : Nat → Int) (Q : Nat → Option Addr × Nat × Nat) (qn : Nat) (h0 : 1 ≤ qn) (h9 : qn ≤ 1000) (w : World) (hr : Rgs w A n c d v Q) (ho : OkR n v Q) :
  Calls Tryz.prog 117 #[.slice A n c, .int .i64 (qn : Int)] w fun e w' => e = .returned (.int .i64 0) ∧ Below w.heap.size w w' := by
 have HR := η hr; have HO := η ho; clear hr ho
 have q1 : ¬ ((qn : Int) < 1) := by omega
 have q2 : ¬ ((4096 : Int) < qn) := by omega
 go_enter Tryz.func117, Tryz.ntmps117
 go_wp2_with fail
 refine (Zbt A n c d v Q _ HR.out HO.out).mono ?_
 rintro e w2 ⟨rfl, B⟩
 have HB := η B; clear B
 go_wp2_with fail
 go_ret
 exact ⟨rfl, HB.out⟩
set_option maxRecDepth 100000 in
theorem ZhB (A : Option Addr) (n c : Nat) (d : Nat → Bool) (v : Nat → Int) (Q : Nat → Option Addr × Nat × Nat) (F G : Nat → Nat → Int) (QA : Option Addr) (qn qc : Nat) (qf qg qd : Nat → Int) (h0 : 1 ≤ qn) (h9 : qn ≤ 100) (w : World) (hT : TabM w) (hr : Rgs w A n c d v Q) (hp : RgP w n Q F G) (ho : OkR n v Q) (hq : Qus w QA qn qc qf qg qd) :
  Calls Tryz.prog 86 #[.pointer none, .slice A n c, .slice QA qn qc] w fun e w' => (∃ g h', e = .returned (.tuple #[.agg #[.int .i64 (b2i (allB (vR v Q F G) n)), .int .i64 ((Jy (Zag (allB (vR v Q F G) n) d v Q F G n qf qg qd) qn : Nat) : Int), .slice (some ⟨g, 0, none⟩) qn qn], .int .i64 0]) ∧ IsSort (Zag (allB (vR v Q F G) n) d v Q F G n qf qg qd) qn h' ∧ Rcs w' (some ⟨g, 0, none⟩) qn qn h') ∧ Below w.heap.size w w' := by
 have HT := η hT; have HR := η hr; have HP := η hp; have HO := η ho; have HQ := η hq
 have hcp := hq.cap; have hmx := hq.max
 unfold maxLen at hmx
 clear hT hr hp ho hq
 obtain ⟨V, hV⟩ : ∃ V, allB (vR v Q F G) n = V := ⟨_, rfl⟩
 rw [hV]
 have HV := η hV; clear hV
 obtain ⟨K, hK⟩ : ∃ K, Zag V d v Q F G n qf qg qd = K := ⟨_, rfl⟩
 rw [hK]
 have HKE := η hK; clear hK
 obtain ⟨N, hN⟩ : ∃ N, Jy K qn = N := ⟨_, rfl⟩
 rw [hN]
 have HN := η hN
 have HNL := η (show N ≤ qn from by rw [← hN]; exact Zas K qn)
 clear hN
 go_enter Tryz.func86, Tryz.ntmps86
 go_wp2_with fail
 have HX := η (Bx.new w #[.int .i64 0, .int .i64 0, .slice none 0 0] 102)
 have HB1 := η (show Below w.heap.size w (w.alloc (.cells #[.int .i64 0, .int .i64 0, .slice none 0 0] 102)) from J8 J0)
 have HT1 := η (HT.out.below HB1.out ν); have HR1 := η (HR.out.below HB1.out ν); have HP1 := η (HP.out.below HB1.out ν); have HQ1 := η (HQ.out.below HB1.out ν)
 generalize w.alloc (.cells #[.int .i64 0, .int .i64 0, .slice none 0 0] 102) = w1 at *
 clear HT HR HP HQ
 refine (Zg1 A n c d v Q qn h0 (by omega) _ HR1.out HO.out).mono ?_
 rintro e w2 ⟨rfl, B⟩
 have HX2 := η (HX.out.below B ν); have HB2 := η (HB1.out.trans (B.mono HB1.out.size)); have HT2 := η (HT1.out.below B ν); have HR2 := η (HR1.out.below B ν); have HP2 := η (HP1.out.below B ν); have HQ2 := η (HQ1.out.below B ν)
 clear B HX HB1 HT1 HR1 HP1 HQ1
 go_wp2_with fail
 refine (ZeD A n c d v Q F G QA qn qc qf qg qd h0 (by omega) _ HT2.out HR2.out HP2.out HO.out HQ2.out).mono ?_
 rintro e w3 ⟨⟨g, rfl, hg⟩, B⟩
 rw [HV.out, HKE.out] at hg
 rw [HV.out]
 have HG3 := η hg; have HX3 := η (HX2.out.below B ν); have HB3 := η (HB2.out.trans (B.mono HB2.out.size))
 clear B hg HX2 HB2 HT2 HR2 HP2 HQ2
 go_wp2_with fail
 refine (Zi4 V _).mono ?_
 rintro e w4 ⟨rfl, rfl⟩
 obtain ⟨x, hx⟩ : ∃ x, b2i V = x := ⟨_, rfl⟩
 have hxr : x = 0 ∨ x = 1 := by rw [← hx]; cases V <;> simp [b2i]
 have HXV := η hx
 rw [hx]
 have e1 : IntKind.i64.wrap x = x := by rw [IntKind.wrap_i64]; omega
 clear hx hxr
 go_wp2_with fail
 refine (ZeC _ qn qn K (by omega) _ HG3.out).mono ?_
 rintro e w5 ⟨rfl, B⟩
 rw [HN.out]
 have e2 : IntKind.i64.wrap (N : Int) = (N : Int) := by have := HNL.out; rw [IntKind.wrap_i64]; omega
 have HG5 := η (HG3.out.below B ν); have HX5 := η (HX3.out.below B ν); have HB5 := η (HB3.out.trans (B.mono HB3.out.size))
 clear B HG3 HX3 HB3
 go_wp2_with fail
 have HA := η (Bx.new w5 #[.int .i64 x, .int .i64 (N : Int), .slice none 0 0] 102)
 have HG6 := η (HG5.out.alloc (.cells #[.int .i64 x, .int .i64 (N : Int), .slice none 0 0] 102)); have HX6 := η (HX5.out.alloc (.cells #[.int .i64 x, .int .i64 (N : Int), .slice none 0 0] 102)); have HB6 := η (HB5.out.alloc HB5.out.size (.cells #[.int .i64 x, .int .i64 (N : Int), .slice none 0 0] 102))
 have HNE := η (show w.heap.size ≠ w5.heap.size ∧ w.heap.size ≤ w5.heap.size from by have := HX5.out.lt; omega)
 generalize hab : w5.heap.size = ab at *
 clear hab
 generalize w5.alloc (.cells #[.int .i64 x, .int .i64 (N : Int), .slice none 0 0] 102) = w6 at *
 clear HG5 HX5 HB5
 refine (Zfu _ qn qn K h0 h9 _ HG6.out).mono ?_
 rintro e w7 ⟨⟨g7, h7, rfl, hg7, hs7, hr7⟩, B⟩
 have HS7 := η hs7; have HR7 := η hr7; have HA7 := η (HA.out.below B ν); have HX7 := η (HX6.out.below B ν); have HB7 := η (HB6.out.trans (B.mono HB6.out.size)); have HLA := η (show ab < g7 from by have := HA.out.lt; omega)
 clear B hs7 hr7 hg7 HA HX6 HB6 HG6
 have a0 := HA7.out.cell 0 (v := .int .i64 x) rfl; have a1 := HA7.out.cell 1 (v := .int .i64 (N : Int)) rfl; have a2 := HA7.out.cell 2 (v := .slice none 0 0) rfl; have z2 := HA7.out.free 2
 have x0 := HX7.out.cell 0 (v := .int .i64 0) rfl; have x1 := HX7.out.cell 1 (v := .int .i64 0) rfl; have x2 := HX7.out.cell 2 (v := .slice none 0 0) rfl; have y0 := HX7.out.free 0; have y1 := HX7.out.free 1; have y2 := HX7.out.free 2
 have hn1 : ¬ (w.heap.size = ab) := HNE.out.1
 have hn2 : ¬ (ab = w.heap.size) := fun e => HNE.out.1 e.symm
 go_wp2_with fail
 clear a0 a1 a2 z2 x0 x1 x2 y0 y1 y2 hn1 hn2
 have HX8 := η ((((HX7.out.other (a := ⟨ab, 2, none⟩) (.slice (some ⟨g7, 0, none⟩) qn qn) HNE.out.1).set 0 (.int .i64 x)).set 1 (.int .i64 (N : Int))).set 2 (.slice (some ⟨g7, 0, none⟩) qn qn))
 have HR8 := η (show Rcs ((((w7.setCell ⟨ab, 2, none⟩ (.slice (some ⟨g7, 0, none⟩) qn qn)).setCell ⟨w.heap.size, 0, none⟩ (.int .i64 x)).setCell ⟨w.heap.size, 1, none⟩ (.int .i64 (N : Int))).setCell ⟨w.heap.size, 2, none⟩ (.slice (some ⟨g7, 0, none⟩) qn qn)) (some ⟨g7, 0, none⟩) qn qn h7 from
  (((HR7.out.setFar (by have := HLA.out; omega)).setFar (by have := HLA.out; have := HNE.out; omega)).setFar (by have := HLA.out; have := HNE.out; omega)).setFar (by have := HLA.out; have := HNE.out; omega))
 have HB8 := η (((((HB7.out.setCell (p := ⟨ab, 2, none⟩) HNE.out.2 (.slice (some ⟨g7, 0, none⟩) qn qn)).setCell (p := ⟨w.heap.size, 0, none⟩) ν (.int .i64 x)).setCell (p := ⟨w.heap.size, 1, none⟩) ν (.int .i64 (N : Int))).setCell (p := ⟨w.heap.size, 2, none⟩) ν (.slice (some ⟨g7, 0, none⟩) qn qn)))
 generalize ((((w7.setCell ⟨ab, 2, none⟩ (.slice (some ⟨g7, 0, none⟩) qn qn)).setCell ⟨w.heap.size, 0, none⟩ (.int .i64 x)).setCell ⟨w.heap.size, 1, none⟩ (.int .i64 (N : Int))).setCell ⟨w.heap.size, 2, none⟩ (.slice (some ⟨g7, 0, none⟩) qn qn)) = w8 at *
 have q0 := HX8.out.cell 0 (v := .int .i64 x) rfl; have q1 := HX8.out.cell 1 (v := .int .i64 (N : Int)) rfl; have q2 := HX8.out.cell 2 (v := .slice (some ⟨g7, 0, none⟩) qn qn) rfl
 refine bodyPost_ret (v := .tuple #[.agg #[.int .i64 x, .int .i64 (N : Int), .slice (some ⟨g7, 0, none⟩) qn qn], .int .i64 0]) (by simp [results, Tryz.results86, go_sem, q0, q1, q2]) rfl ⟨⟨g7, h7, by rw [HXV.out], HS7.out, HR8.out⟩, HB8.out⟩
theorem ZbZ (h : Nat → Int) : ∀ n, Jy h n + cge h 18446744073709551616 n = n
 | 0 => rfl
 | n + 1 => by
  have := ZbZ h n
  rw [Jy, cge]
  by_cases e : h n < 18446744073709551616
  ·rw [if_pos e, if_neg (by omega)]; omega
  ·rw [if_neg e, if_pos (by omega)]; omega
theorem Zfv {f h : Nat → Int} {n : Nat} (a : IsSort f n h) {i : Nat} (hi : i < n) : h i < 18446744073709551616 ↔ i < Jy f n := by
 have h1 := a.srt.ge hi 18446744073709551616
 have h2 := ZbZ f n
 rw [a.cnt] at h1
 omega
set_option maxRecDepth 100000 in
theorem Zdu (HA : Option Addr) (n hc : Nat) (x : Int) (N qn g : Nat) (h : Nat → Int) (hx : x = 0 ∨ x = 1) (hN : N ≤ qn) (hN0 : x = 0 → N = 0) (hq : qn ≤ 1000) (hl : ∀ i, i < qn → (h i < 18446744073709551616 ↔ i < N)) (w : World) (hr : Rcs w (some ⟨g, 0, none⟩) qn qn h) :
  Calls Tryz.prog 89 #[.agg #[.int .i64 5, .int .i64 0, .slice HA n hc, .int .i64 (qn : Int)], .agg #[.int .i64 x, .int .i64 (N : Int), .slice (some ⟨g, 0, none⟩) qn qn]] w fun e w' => e = .returned (.bool true) ∧ Below w.heap.size w w' := by
 have HR := η hr; have HL := η hl; clear hr hl
 have hmx : qn ≤ 9223372036854775807 := by omega
 rcases hx with rfl | rfl
 ·obtain rfl : N = 0 := hN0 rfl
  have e4 : wrap64 ((qn : Int) * min 0 1) = 0 := by rw [show (min 0 1 : Int) = 0 from by decide, Int.mul_zero]; unfold wrap64; decide
  go_enter Tryz.func89, Tryz.ntmps89
  have HH := η (show Bx ((w.alloc (.cells #[.int .i64 5, .int .i64 0, .slice HA n hc, .int .i64 (qn : Int)] 28)).alloc (.cells #[.int .i64 0, .int .i64 0, .slice (some ⟨g, 0, none⟩) qn qn] 102)) w.heap.size #[.int .i64 5, .int .i64 0, .slice HA n hc, .int .i64 (qn : Int)] 28 from (Bx.new _ _ _).alloc _)
  have HA_ := η (show Bx ((w.alloc (.cells #[.int .i64 5, .int .i64 0, .slice HA n hc, .int .i64 (qn : Int)] 28)).alloc (.cells #[.int .i64 0, .int .i64 0, .slice (some ⟨g, 0, none⟩) qn qn] 102)) (w.heap.size + 1) #[.int .i64 0, .int .i64 0, .slice (some ⟨g, 0, none⟩) qn qn] 102 from Jb (by simp))
  have HB1 := η (show Below w.heap.size w ((w.alloc (.cells #[.int .i64 5, .int .i64 0, .slice HA n hc, .int .i64 (qn : Int)] 28)).alloc (.cells #[.int .i64 0, .int .i64 0, .slice (some ⟨g, 0, none⟩) qn qn] 102)) from J8 (J8 J0))
  go_wp2_with fail
  generalize ((w.alloc (.cells #[.int .i64 5, .int .i64 0, .slice HA n hc, .int .i64 (qn : Int)] 28)).alloc (.cells #[.int .i64 0, .int .i64 0, .slice (some ⟨g, 0, none⟩) qn qn] 102)) = w1 at *
  go_loopw [51] (fun ir wr => ∃ k : Nat, k ≤ qn ∧ ir = .int .i64 (k : Int) ∧ Below w1.heap.size w1 wr) (fun i _ => qn - (intOf i).toNat)
  case atStart => exact ⟨0, Nat.zero_le _, rfl, J0⟩
  case round =>
   obtain ⟨k, hk, rfl, hb⟩ := hrel
   have HB := η hb; clear hb
   have HBW := η (HB1.out.trans (HB.out.mono HB1.out.size))
   have HAR := η (HA_.out.below HB.out ν)
   by_cases hlt : k < qn
   ·obtain ⟨b, off, e0, hbl, hc_⟩ := HR.out.at_ (by omega)
    obtain ⟨rfl, rfl⟩ : g = b ∧ 0 = off := by simpa using e0
    have p0 : wr.cell? ⟨g, k * 2, none⟩ = some (.int .u64 (rl (h k))) := (HBW.out.cell (p := ⟨g, k * 2, none⟩) hbl).trans (by have := (hc_ k hlt).1; rw [Nat.zero_add] at this; exact this)
    have p1 : wr.cell? ⟨g, k * 2 + 1, none⟩ = some (.int .u64 (ri (h k))) := (HBW.out.cell (p := ⟨g, k * 2 + 1, none⟩) hbl).trans (by have := (hc_ k hlt).2; rw [Nat.zero_add] at this; exact this)
    have hms := η (show qn - (intOf (.int .i64 ((k : Int) + 1))).toNat < qn - (intOf (.int .i64 (k : Int))).toNat from by simp [intOf]; omega)
    have HLK := η (HL.out k hlt)
    clear hbl hc_ e0
    by_cases hkn : k < 0
    ·exact absurd hkn (Nat.not_lt_zero _)
    ·have hd : ¬ (h k < 18446744073709551616) := fun e => hkn (HLK.out.1 e)
     have e1 : rl (h k) = 0 := by unfold rl; rw [if_neg hd]
     have e2 : ri (h k) = 0 := by unfold ri; rw [if_neg hd]
     rw [e1] at p0
     rw [e2] at p1
     have q1 : ¬ ((k : Int) < 0) := by omega
     clear e1 e2 hd
     have a1 := (HAR.out.alloc (.cells #[.int .u64 0, .int .u64 0] 86)).cell 1 (v := .int .i64 0) rfl
     have HB9 := η (HB.out.alloc HB.out.size (.cells #[.int .u64 0, .int .u64 0] 86))
     go_wp2_with fail
     go_roundw
     case rel => exact ⟨k + 1, hlt, by go_num, HB9.out⟩
     case measure => exact hms.out
   ·obtain rfl : k = qn := by omega
    go_wp2_with fail
    go_ret
    exact ⟨rfl, HBW.out⟩
 ·have q2 : ¬ ((qn : Int) < (N : Int)) := by omega
  have q3 : ¬ ((N : Int) < 0) := by omega
  have e3 : IntKind.i64.wrap (qn : Int) = (qn : Int) := by rw [IntKind.wrap_i64]; omega
  go_enter Tryz.func89, Tryz.ntmps89
  have HH := η (show Bx ((w.alloc (.cells #[.int .i64 5, .int .i64 0, .slice HA n hc, .int .i64 (qn : Int)] 28)).alloc (.cells #[.int .i64 1, .int .i64 (N : Int), .slice (some ⟨g, 0, none⟩) qn qn] 102)) w.heap.size #[.int .i64 5, .int .i64 0, .slice HA n hc, .int .i64 (qn : Int)] 28 from (Bx.new _ _ _).alloc _)
  have HA_ := η (show Bx ((w.alloc (.cells #[.int .i64 5, .int .i64 0, .slice HA n hc, .int .i64 (qn : Int)] 28)).alloc (.cells #[.int .i64 1, .int .i64 (N : Int), .slice (some ⟨g, 0, none⟩) qn qn] 102)) (w.heap.size + 1) #[.int .i64 1, .int .i64 (N : Int), .slice (some ⟨g, 0, none⟩) qn qn] 102 from Jb (by simp))
  have HB1 := η (show Below w.heap.size w ((w.alloc (.cells #[.int .i64 5, .int .i64 0, .slice HA n hc, .int .i64 (qn : Int)] 28)).alloc (.cells #[.int .i64 1, .int .i64 (N : Int), .slice (some ⟨g, 0, none⟩) qn qn] 102)) from J8 (J8 J0))
  go_wp2_with fail
  generalize ((w.alloc (.cells #[.int .i64 5, .int .i64 0, .slice HA n hc, .int .i64 (qn : Int)] 28)).alloc (.cells #[.int .i64 1, .int .i64 (N : Int), .slice (some ⟨g, 0, none⟩) qn qn] 102)) = w1 at *
  go_loopw [51] (fun ir wr => ∃ k : Nat, k ≤ qn ∧ ir = .int .i64 (k : Int) ∧ Below w1.heap.size w1 wr) (fun i _ => qn - (intOf i).toNat)
  case atStart => exact ⟨0, Nat.zero_le _, rfl, J0⟩
  case round =>
   obtain ⟨k, hk, rfl, hb⟩ := hrel
   have HB := η hb; clear hb
   have HBW := η (HB1.out.trans (HB.out.mono HB1.out.size))
   have HAR := η (HA_.out.below HB.out ν)
   by_cases hlt : k < qn
   ·obtain ⟨b, off, e0, hbl, hc_⟩ := HR.out.at_ (by omega)
    obtain ⟨rfl, rfl⟩ : g = b ∧ 0 = off := by simpa using e0
    have p0 : wr.cell? ⟨g, k * 2, none⟩ = some (.int .u64 (rl (h k))) := (HBW.out.cell (p := ⟨g, k * 2, none⟩) hbl).trans (by have := (hc_ k hlt).1; rw [Nat.zero_add] at this; exact this)
    have p1 : wr.cell? ⟨g, k * 2 + 1, none⟩ = some (.int .u64 (ri (h k))) := (HBW.out.cell (p := ⟨g, k * 2 + 1, none⟩) hbl).trans (by have := (hc_ k hlt).2; rw [Nat.zero_add] at this; exact this)
    have hms := η (show qn - (intOf (.int .i64 ((k : Int) + 1))).toNat < qn - (intOf (.int .i64 (k : Int))).toNat from by simp [intOf]; omega)
    have HLK := η (HL.out k hlt)
    clear hbl hc_ e0
    by_cases hkn : k < N
    ·have e1 : rl (h k) = 1 := by unfold rl; rw [if_pos (HLK.out.2 hkn)]
     rw [e1] at p0
     generalize ri (h k) = y at *
     have q1 : (k : Int) < (N : Int) := by omega
     clear e1
     have a1 := (HAR.out.alloc (.cells #[.int .u64 1, .int .u64 y] 86)).cell 1 (v := .int .i64 (N : Int)) rfl
     have HB9 := η (HB.out.alloc HB.out.size (.cells #[.int .u64 1, .int .u64 y] 86))
     go_wp2_with fail
     go_roundw
     case rel => exact ⟨k + 1, hlt, by go_num, HB9.out⟩
     case measure => exact hms.out
    ·have hd : ¬ (h k < 18446744073709551616) := fun e => hkn (HLK.out.1 e)
     have e1 : rl (h k) = 0 := by unfold rl; rw [if_neg hd]
     have e2 : ri (h k) = 0 := by unfold ri; rw [if_neg hd]
     rw [e1] at p0
     rw [e2] at p1
     have q1 : ¬ ((k : Int) < (N : Int)) := by omega
     clear e1 e2 hd
     have a1 := (HAR.out.alloc (.cells #[.int .u64 0, .int .u64 0] 86)).cell 1 (v := .int .i64 (N : Int)) rfl
     have HB9 := η (HB.out.alloc HB.out.size (.cells #[.int .u64 0, .int .u64 0] 86))
     go_wp2_with fail
     go_roundw
     case rel => exact ⟨k + 1, hlt, by go_num, HB9.out⟩
     case measure => exact hms.out
   ·obtain rfl : k = qn := by omega
    go_wp2_with fail
    go_ret
    exact ⟨rfl, HBW.out⟩
set_option maxRecDepth 100000 in
theorem Zif (r : World) (base bw : Nat) (A : Option Addr) (n c : Nat) (f g d : Nat → Int) (hn : n ≤ 10000) (l : List Int) (hl : l.length ≤ 500000) (w : World) (hb : base ≤ w.heap.size) (hrb : r.heap.size ≤ base) (hp : Qus r A n c f g d) (hbr : Below base r w) (hw : Wr w base bw l) :
  Calls Tryz.prog 115 #[.slice A n c, .func (.func 116) #[.pointer (some ⟨bw, 0, none⟩)] #[]] w fun e w' => e = .returned (.tuple #[]) ∧ Wr w' base bw (l ++ qusB f g d n) ∧ Fr base (some bw) w w' := by
 have HW := η hw; have HP := η hp; have HLL := η hl; have HN := η hn; have HRB := η hrb; have HBR0 := η hbr; clear hw hp hl hn hrb hbr
 go_enter Tryz.func115, Tryz.ntmps115
 go_wp2_with fail
 go_loopw [8] (fun ir wr => ∃ k : Nat, k ≤ n ∧ ir = .int .i64 (k : Int) ∧ Wr wr base bw (l ++ qusB f g d k) ∧ Fr base (some bw) w wr) (fun i _ => n - (intOf i).toNat)
 case atStart => exact ⟨0, Nat.zero_le _, rfl, by simpa [qusB] using HW.out, Fr.refl _ _ _⟩
 case round =>
  obtain ⟨k, hk, rfl, hwr, hbr⟩ := hrel
  have HWR := η hwr; have HBR := η hbr; clear hwr hbr
  by_cases hlt : k < n
  ·obtain ⟨b, off, rfl, hbl, hc⟩ := HP.out.at_ (by omega)
   have hB := HBR0.out.trans HBR.out.below
   have c0 : wr.cell? ⟨b, off + k * 3, none⟩ = some (.int .i64 (f k)) := (hB.cell (p := ⟨b, off + k * 3, none⟩) (by show b < base; have := HRB.out; omega)).trans (hc k hlt).1
   have c1 : wr.cell? ⟨b, off + k * 3 + 1, none⟩ = some (.int .i64 (g k)) := (hB.cell (p := ⟨b, off + k * 3 + 1, none⟩) (by show b < base; have := HRB.out; omega)).trans (hc k hlt).2.1
   have c2 : wr.cell? ⟨b, off + k * 3 + 2, none⟩ = some (.int .u64 (d k)) := (hB.cell (p := ⟨b, off + k * 3 + 2, none⟩) (by show b < base; have := HRB.out; omega)).trans (hc k hlt).2.2
   have hcp := HP.out.cap; have hmx := HP.out.max
   have HIS := η (HP.out.isi k hlt)
   unfold maxLen at hmx
   clear hB hc hbl
   have hms := η (show n - (intOf (.int .i64 ((k : Int) + 1))).toNat < n - (intOf (.int .i64 (k : Int))).toNat from by simp [intOf]; omega)
   have hlk : (l ++ qusB f g d k).length ≤ 800000 := by have := HLL.out; have := HN.out; simp [Zb9]; omega
   have HLK := η hlk; clear hlk
   go_wp2_with fail
   clear c0 c1 c2
   have HF := η (HBR.out.alloc (Nat.le_trans hb HBR.out.size) (.cells #[.int .i64 (f k), .int .i64 (g k), .int .u64 (d k)] 63))
   have HW1 := η (HWR.out.alloc (.cells #[.int .i64 (f k), .int .i64 (g k), .int .u64 (d k)] 63))
   generalize wr.alloc (.cells #[.int .i64 (f k), .int .i64 (g k), .int .u64 (d k)] 63) = w1 at *
   clear HBR HWR
   refine (ZeT base bw _ (f k) (g k) (d k) HIS.out.2.2 HLK.out _ (Nat.le_trans hb HF.out.size) HW1.out).mono ?_
   rintro e w2 ⟨rfl, h2, g2⟩
   have HW2 := η (show Wr w2 base bw (l ++ qusB f g d (k + 1)) from by rw [qusB, ← List.append_assoc]; exact h2); have HF2 := η (HF.out.trans g2); clear h2 g2 HW1 HF
   go_wp2_with fail
   go_roundw
   case rel => exact ⟨k + 1, hlt, by go_num, HW2.out, HF2.out⟩
   case measure => exact hms.out
  ·obtain rfl : k = n := by omega
   go_wp2_with fail
   go_end0
   exact ⟨rfl, HWR.out, HBR.out⟩
set_option maxRecDepth 100000 in
theorem ZhC (r : World) (base bw : Nat) (A : Option Addr) (n c : Nat) (h : Nat → Int) (hn : n ≤ 10000) (l : List Int) (hl : l.length ≤ 500000) (w : World) (hb : base ≤ w.heap.size) (hrb : r.heap.size ≤ base) (hp : Rcs r A n c h) (hbr : Below base r w) (hw : Wr w base bw l) :
  Calls Tryz.prog 90 #[.slice A n c, .func (.func 91) #[.pointer (some ⟨bw, 0, none⟩)] #[]] w fun e w' => e = .returned (.tuple #[]) ∧ Wr w' base bw (l ++ recB h n) ∧ Fr base (some bw) w w' := by
 have HW := η hw; have HP := η hp; have HLL := η hl; have HN := η hn; have HRB := η hrb; have HBR0 := η hbr; clear hw hp hl hn hrb hbr
 go_enter Tryz.func90, Tryz.ntmps90
 go_wp2_with fail
 go_loopw [8] (fun ir wr => ∃ k : Nat, k ≤ n ∧ ir = .int .i64 (k : Int) ∧ Wr wr base bw (l ++ recB h k) ∧ Fr base (some bw) w wr) (fun i _ => n - (intOf i).toNat)
 case atStart => exact ⟨0, Nat.zero_le _, rfl, by simpa [recB] using HW.out, Fr.refl _ _ _⟩
 case round =>
  obtain ⟨k, hk, rfl, hwr, hbr⟩ := hrel
  have HWR := η hwr; have HBR := η hbr; clear hwr hbr
  by_cases hlt : k < n
  ·obtain ⟨b, off, rfl, hbl, hc⟩ := HP.out.at_ (by omega)
   have hB := HBR0.out.trans HBR.out.below
   have c0 : wr.cell? ⟨b, off + k * 2, none⟩ = some (.int .u64 (rl (h k))) := (hB.cell (p := ⟨b, off + k * 2, none⟩) (by show b < base; have := HRB.out; omega)).trans (hc k hlt).1
   have c1 : wr.cell? ⟨b, off + k * 2 + 1, none⟩ = some (.int .u64 (ri (h k))) := (hB.cell (p := ⟨b, off + k * 2 + 1, none⟩) (by show b < base; have := HRB.out; omega)).trans (hc k hlt).2
   have hcp := HP.out.cap; have hmx := HP.out.max
   have HIS := η (HP.out.isk k hlt)
   unfold maxLen at hmx
   clear hB hc hbl
   have hms := η (show n - (intOf (.int .i64 ((k : Int) + 1))).toNat < n - (intOf (.int .i64 (k : Int))).toNat from by simp [intOf]; omega)
   have hlk : (l ++ recB h k).length ≤ 800000 := by have := HLL.out; have := HN.out; simp [Zd2]; omega
   have HLK := η hlk; clear hlk
   go_wp2_with fail
   clear c0 c1
   have HF := η (HBR.out.alloc (Nat.le_trans hb HBR.out.size) (.cells #[.int .u64 (rl (h k)), .int .u64 (ri (h k))] 86))
   have HW1 := η (HWR.out.alloc (.cells #[.int .u64 (rl (h k)), .int .u64 (ri (h k))] 86))
   generalize wr.alloc (.cells #[.int .u64 (rl (h k)), .int .u64 (ri (h k))] 86) = w1 at *
   clear HBR HWR
   refine (Zek base bw _ (rl (h k)) (ri (h k)) (by have := ZaO (h k); omega) (Zbg HIS.out) HLK.out _ (Nat.le_trans hb HF.out.size) HW1.out).mono ?_
   rintro e w2 ⟨rfl, h2, g2⟩
   have HW2 := η (show Wr w2 base bw (l ++ recB h (k + 1)) from by rw [recB, ← List.append_assoc]; exact h2); have HF2 := η (HF.out.trans g2); clear h2 g2 HW1 HF
   go_wp2_with fail
   go_roundw
   case rel => exact ⟨k + 1, hlt, by go_num, HW2.out, HF2.out⟩
   case measure => exact hms.out
  ·obtain rfl : k = n := by omega
   go_wp2_with fail
   go_end0
   exact ⟨rfl, HWR.out, HBR.out⟩
theorem OpN.opP {op p : Int} {np nq : Nat} (h : OpN op p np nq) : OpP op p := by
 rcases h with ⟨h1, h2, _, _⟩ | ⟨h1, h2, h3, _, _⟩
 ·exact .inl ⟨h1, h2⟩
 ·exact .inr ⟨h1, h2, h3⟩
theorem ZeE (op p : Int) (np nq : Nat) (hop : OpN op p np nq) (A : Option Addr) (n c : Nat) (w : World) :
  Calls Tryz.prog 82 #[.agg #[.int .i64 op, .int .i64 0, .slice A n c, .int .i64 p]] w fun e w' => e = .returned (.tuple #[.int .i64 (np : Int), .int .i64 (nq : Int)]) ∧ Below w.heap.size w w' := by
 rcases hop with ⟨rfl, rfl, rfl, rfl⟩ | ⟨rfl, h1, h2, rfl, rfl⟩
 ·exact Zen A n c w
 ·exact Zc0 _ A n c w
set_option maxHeartbeats 10000000 in
set_option maxRecDepth 100000 in
theorem ZeF (op p : Int) (np nq : Nat) (hop : OpN op p np nq) (HA : Option Addr) (hc : Nat) (Qh : Nat → Option Addr × Nat × Nat) (A : Option Addr) (n c : Nat) (d : Nat → Bool) (v : Nat → Int) (Q : Nat → Option Addr × Nat × Nat) (F G : Nat → Nat → Int) (PA : Option Addr) (pc : Nat) (f g : Nat → Int) (QA : Option Addr) (qc : Nat) (qf qg qd : Nat → Int) (w : World)
  (hh : Rgs w HA n hc d v Qh) (hq : ∀ k, k < n → (Qh k).2.1 = 0) (hr : Rgs w A n c d v Q) (hp : RgP w n Q F G) (ho : OkR n v Q) (hpp : Pts w PA np pc f g) (hqq : Qus w QA nq qc qf qg qd) :
  Calls Tryz.prog 85 #[.agg #[.int .i64 op, .int .i64 0, .slice HA n hc, .int .i64 p, .slice A n c, .slice PA np pc, .slice QA nq qc]] w fun e w' => (∃ v', e = .returned (.tuple #[v', .int .i64 0])) ∧ Below w.heap.size w w' := by
 have HOP := η hop; have HOPP := η hop.opP
 have HNP := η (show np ≤ 1 ∧ nq ≤ 4096 from by rcases hop with ⟨_, _, h, h'⟩ | ⟨_, _, _, h, h'⟩ <;> omega)
 have HQQ := η hqq
 have hcp4 := hqq.cap
 have hmx4 := hqq.max
 have HH := η hh; have HQ := η hq; have HR := η hr; have HP := η hp; have HO := η ho; have HPP := η hpp
 have hcp := hr.cap
 have hmx := hr.max
 have hcp2 := hh.cap
 have hmx2 := hh.max
 have hcp3 := hpp.cap
 have hmx3 := hpp.max
 have h1 := ho.pos
 have h2 := ho.le
 clear hop hh hq hr hp ho hpp hqq
 unfold maxLen at hmx hmx2 hmx3 hmx4
 obtain ⟨b, off, rfl, hbl, hc⟩ := HR.out.at_ (by omega)
 have HC := η hc; have HBL := η hbl; clear hc hbl
 obtain ⟨hb_, hoff, rfl, hhl, hhc⟩ := HH.out.at_ (by omega)
 have HHC := η hhc; have HHL := η hhl; clear hhc hhl
 go_enter Tryz.func85, Tryz.ntmps85
 go_wp2_with fail
 have HX := η (Bx.new w #[.int .i64 op, .int .i64 0, .slice (some ⟨hb_, hoff, none⟩) n hc, .int .i64 p, .slice (some ⟨b, off, none⟩) n c, .slice PA np pc, .slice QA nq qc] 99)
 have HB1 := η (show Below w.heap.size w (w.alloc (.cells #[.int .i64 op, .int .i64 0, .slice (some ⟨hb_, hoff, none⟩) n hc, .int .i64 p, .slice (some ⟨b, off, none⟩) n c, .slice PA np pc, .slice QA nq qc] 99)) from J8 J0)
 generalize w.alloc (.cells #[.int .i64 op, .int .i64 0, .slice (some ⟨hb_, hoff, none⟩) n hc, .int .i64 p, .slice (some ⟨b, off, none⟩) n c, .slice PA np pc, .slice QA nq qc] 99) = w1 at *
 have c0 := HX.out.cell 0 (v := .int .i64 op) rfl; have c1 := HX.out.cell 1 (v := .int .i64 0) rfl; have c2 := HX.out.cell 2 (v := .slice (some ⟨hb_, hoff, none⟩) n hc) rfl; have c3 := HX.out.cell 3 (v := .int .i64 p) rfl
 go_wp2_with fail
 clear c0 c1 c2 c3
 refine (ZbE op p HOPP.out _ n hc d v Qh HO.out.toOkK HQ.out _ (HH.out.below HB1.out ν)).mono ?_
 rintro e w2 ⟨⟨v', rfl, ho2⟩, B⟩
 obtain ⟨A', c', rfl⟩ := ho2.slice
 have HX2 := η (HX.out.below B ν); have HB12 := η B; have HO2 := η ho2; clear B ho2
 have c0 := HX2.out.cell 0 (v := .int .i64 op) rfl; have c1 := HX2.out.cell 1 (v := .int .i64 0) rfl; have c2 := HX2.out.cell 2 (v := .slice (some ⟨hb_, hoff, none⟩) n hc) rfl; have c3 := HX2.out.cell 3 (v := .int .i64 p) rfl
 go_wp2_with fail
 clear c0 c1 c2 c3
 refine (ZeE op p np nq HOP.out _ n hc _).mono ?_
 rintro e w3 ⟨rfl, B⟩
 have HX3 := η (HX2.out.below B ν); have HB13 := η (HB12.out.trans (B.mono HB12.out.size)); have HO3 := η (HO2.out.below B ν); clear B HX2 HB12 HO2
 have c0 := HX3.out.cell 0 (v := .int .i64 op) rfl; have c1 := HX3.out.cell 1 (v := .int .i64 0) rfl; have c2 := HX3.out.cell 2 (v := .slice (some ⟨hb_, hoff, none⟩) n hc) rfl; have c3 := HX3.out.cell 3 (v := .int .i64 p) rfl; have c4 := HX3.out.cell 4 (v := .slice (some ⟨b, off, none⟩) n c) rfl; have c5 := HX3.out.cell 5 (v := .slice PA np pc) rfl; have c6 := HX3.out.cell 6 (v := .slice QA nq qc) rfl
 go_wp2_with fail
 clear c0 c1 c2 c3 c4 c5 c6
 go_loopw [5, 54] (fun er ir wr => ∃ k : Nat, k ≤ n ∧ er = .int .i64 0 ∧ ir = .int .i64 (k : Int) ∧ Below w3.heap.size w3 wr) (fun _ i _ => n - (intOf i).toNat)
 case atStart => exact ⟨0, by omega, rfl, rfl, J0⟩
 case round =>
  obtain ⟨k, hk, rfl, rfl, hb⟩ := hrel
  have HBR := η hb; clear hb
  have HXR := η (HX3.out.below HBR.out ν)
  have HB := η (HB1.out.trans ((HB13.out.trans (HBR.out.mono HB13.out.size)).mono HB1.out.size))
  by_cases hlt : k < n
  ·have p0 : wr.cell? ⟨b, off + k * 3, none⟩ = some (.bool (d k)) := (HB.out.cell (p := ⟨b, off + k * 3, none⟩) HBL.out).trans (HC.out k hlt).1
   have p1 : wr.cell? ⟨b, off + k * 3 + 1, none⟩ = some (.int .i64 (v k)) := (HB.out.cell (p := ⟨b, off + k * 3 + 1, none⟩) HBL.out).trans (HC.out k hlt).2.1
   have p2 : wr.cell? ⟨b, off + k * 3 + 2, none⟩ = some (.slice (Q k).1 (Q k).2.1 (Q k).2.2) := (HB.out.cell (p := ⟨b, off + k * 3 + 2, none⟩) HBL.out).trans (HC.out k hlt).2.2
   have r0 : wr.cell? ⟨hb_, hoff + k * 3, none⟩ = some (.bool (d k)) := (HB.out.cell (p := ⟨hb_, hoff + k * 3, none⟩) HHL.out).trans (HHC.out k hlt).1
   have r1 : wr.cell? ⟨hb_, hoff + k * 3 + 1, none⟩ = some (.int .i64 (v k)) := (HB.out.cell (p := ⟨hb_, hoff + k * 3 + 1, none⟩) HHL.out).trans (HHC.out k hlt).2.1
   have r2 : wr.cell? ⟨hb_, hoff + k * 3 + 2, none⟩ = some (.slice (Qh k).1 (Qh k).2.1 (Qh k).2.2) := (HB.out.cell (p := ⟨hb_, hoff + k * 3 + 2, none⟩) HHL.out).trans (HHC.out k hlt).2.2
   have hms := η (show n - (intOf (.int .i64 ((k : Int) + 1))).toNat < n - (intOf (.int .i64 (k : Int))).toNat from by simp [intOf]; omega)
   have c2 := HXR.out.cell 2 (v := .slice (some ⟨hb_, hoff, none⟩) n hc) rfl
   have hxlt := HXR.out.lt
   have hhlt : hb_ < wr.heap.size := Nat.lt_of_lt_of_le HHL.out HB.out.size
   go_wp2_with fail
   clear p0 p1 p2 r0 r1 r2 c2
   have FG := η (show Bx ((wr.alloc (.cells #[.bool (d k), .int .i64 (v k), .slice (Q k).1 (Q k).2.1 (Q k).2.2] 48)).alloc (.cells #[.bool (d k), .int .i64 (v k), .slice (Qh k).1 (Qh k).2.1 (Qh k).2.2] 48)) wr.heap.size #[.bool (d k), .int .i64 (v k), .slice (Q k).1 (Q k).2.1 (Q k).2.2] 48 from (Bx.new _ _ _).alloc _)
   have FH := η (show Bx ((wr.alloc (.cells #[.bool (d k), .int .i64 (v k), .slice (Q k).1 (Q k).2.1 (Q k).2.2] 48)).alloc (.cells #[.bool (d k), .int .i64 (v k), .slice (Qh k).1 (Qh k).2.1 (Qh k).2.2] 48)) (wr.heap.size + 1) #[.bool (d k), .int .i64 (v k), .slice (Qh k).1 (Qh k).2.1 (Qh k).2.2] 48 from Jb (by simp))
   have HB9 := η (HBR.out.trans ((show Below wr.heap.size wr ((wr.alloc (.cells #[.bool (d k), .int .i64 (v k), .slice (Q k).1 (Q k).2.1 (Q k).2.2] 48)).alloc (.cells #[.bool (d k), .int .i64 (v k), .slice (Qh k).1 (Qh k).2.1 (Qh k).2.2] 48)) from J8 (J8 J0)).mono HBR.out.size))
   clear HBR HXR HB hxlt hhlt
   generalize ((wr.alloc (.cells #[.bool (d k), .int .i64 (v k), .slice (Q k).1 (Q k).2.1 (Q k).2.2] 48)).alloc (.cells #[.bool (d k), .int .i64 (v k), .slice (Qh k).1 (Qh k).2.1 (Qh k).2.2] 48)) = w4 at *
   have HNE := η (show (!((((Q k).2.1 : Nat) : Int) == szf (v k))) = false from by rw [HO.out.num k hlt]; simp)
   refine (wpIn_wide (n := 0)).1 ?_
   refine wpIn_region_any (by kernel_rfl) ?_
   change wpAnyIn _ _ _ _ _ _ _ _ _ (World.drew _)
   have RB5 := η (Je w4)
   refine Jk WideF.wide (fun a b => Below a.heap.size a b) (fun _ => J0) (fun _ _ _ h k => J6 h k) [⟨0, 66, fun z_ _ => z_ = .pointer (some ⟨wr.heap.size, 2, none⟩)⟩, ⟨1, 67, fun z_ _ => z_ = .slice (Q k).1 (Q k).2.1 (Q k).2.2⟩, ⟨2, 68, fun z_ _ => z_ = .int .i64 (((Q k).2.1 : Nat) : Int)⟩, ⟨3, 69, fun z_ _ => z_ = .agg #[.bool (d k), .int .i64 (v k), .slice (Qh k).1 (Qh k).2.1 (Qh k).2.2]⟩, ⟨4, 70, fun z_ _ => z_ = .int .i64 (szf (v k))⟩, ⟨5, 71, fun z_ _ => z_ = .bool false⟩, ⟨6, 65, fun z_ _ => z_ = .bool false⟩] 7 (by kernel_rfl) ?_ ?_ ?_
   ·refine ⟨?_, ?_, ?_, ?_, ?_, ?_, ?_, trivial⟩
    all_goals (intro x w w' hb h; first | exact h | (obtain ⟨b_, h1, h2⟩ := h; exact ⟨b_, h1, h2.below hb ν⟩))
   ·refine ⟨?_, ?_, ?_, ?_, ?_, ?_, ?_, trivial⟩
    ·intro a wz K hb ht hd hK
     have hbw := η (J6 RB5.out hb); clear hb
     have hx9 := (ht 9 rfl).trans rfl
     have es9 : a.tmps.getD 9 undef = _ := J7 hx9; clear hx9
     clear ht hd
     have HK := η hK; clear hK
     refine oP (fun K' HK' => ?_)
     go_simp
     exact HK'.out _ _ (HK.out _ _ J0 rfl)
    ·intro a wz K hb ht hd hK
     have hbw := η (J6 RB5.out hb); clear hb
     obtain ⟨x66, hx66, hp66⟩ := hd 0 _ rfl (by kernel_rfl)
     obtain rfl := hp66
     have es66 : a.tmps.getD 66 undef = _ := J7 hx66; clear hx66
     clear ht hd
     have zc0 := (FG.out.below hbw.out ν).cell 2 (v := .slice (Q k).1 (Q k).2.1 (Q k).2.2) rfl
     have HK := η hK; clear hK
     refine oP (fun K' HK' => ?_)
     go_simp
     exact HK'.out _ _ (HK.out _ _ J0 rfl)
    ·intro a wz K hb ht hd hK
     have hbw := η (J6 RB5.out hb); clear hb
     obtain ⟨x67, hx67, hp67⟩ := hd 1 _ rfl (by kernel_rfl)
     obtain rfl := hp67
     have es67 : a.tmps.getD 67 undef = _ := J7 hx67; clear hx67
     clear ht hd
     have HK := η hK; clear hK
     refine oP (fun K' HK' => ?_)
     go_simp
     exact HK'.out _ _ (HK.out _ _ J0 rfl)
    ·intro a wz K hb ht hd hK
     have hbw := η (J6 RB5.out hb); clear hb
     have hx10 := (ht 10 rfl).trans rfl
     have es10 : a.tmps.getD 10 undef = _ := J7 hx10; clear hx10
     clear ht hd
     have zc0 := (FH.out.below hbw.out ν).cell 0 (v := .bool (d k)) rfl
     have zc1 := (FH.out.below hbw.out ν).cell 1 (v := .int .i64 (v k)) rfl
     have zc2 := (FH.out.below hbw.out ν).cell 2 (v := .slice (Qh k).1 (Qh k).2.1 (Qh k).2.2) rfl
     have HK := η hK; clear hK
     refine oP (fun K' HK' => ?_)
     go_simp
     exact HK'.out _ _ (HK.out _ _ J0 rfl)
    ·intro a wz K hb ht hd hK
     have hbw := η (J6 RB5.out hb); clear hb
     obtain ⟨x69, hx69, hp69⟩ := hd 3 _ rfl (by kernel_rfl)
     obtain rfl := hp69
     have es69 : a.tmps.getD 69 undef = _ := J7 hx69; clear hx69
     clear ht hd
     have HK := η hK; clear hK
     refine oP (fun K' HK' => ?_)
     go_simp
     refine (JW (d k) (v k) _ _ _ _).mono ?_
     rintro e w1 ⟨rfl, B⟩
     go_wp2_with fail
     exact HK'.out _ _ (HK.out _ _ B rfl)
    ·intro a wz K hb ht hd hK
     have hbw := η (J6 RB5.out hb); clear hb
     obtain ⟨x68, hx68, hp68⟩ := hd 2 _ rfl (by kernel_rfl)
     obtain rfl := hp68
     have es68 : a.tmps.getD 68 undef = _ := J7 hx68; clear hx68
     obtain ⟨x70, hx70, hp70⟩ := hd 4 _ rfl (by kernel_rfl)
     obtain rfl := hp70
     have es70 : a.tmps.getD 70 undef = _ := J7 hx70; clear hx70
     clear ht hd
     have HK := η hK; clear hK
     refine oP (fun K' HK' => ?_)
     go_simp
     exact HK'.out _ _ (HK.out _ _ J0 (congrArg Value.bool HNE.out))
    ·intro a wz K hb ht hd hK
     have hbw := η (J6 RB5.out hb); clear hb
     obtain ⟨x71, hx71, hp71⟩ := hd 5 _ rfl (by kernel_rfl)
     obtain rfl := hp71
     have es71 : a.tmps.getD 71 undef = _ := J7 hx71; clear hx71
     clear ht hd
     have HK := η hK; clear hK
     refine oP (fun K' HK' => ?_)
     go_simp
     exact HK'.out _ _ (HK.out _ _ J0 rfl)
   intro w6 X hb hv
   simp only [List.foldl_cons, List.foldl_nil, Act.put, List.setIfInBounds_toArray, List.set_cons_zero, List.set_cons_succ, List.toList_toArray, List.drop_succ_cons, List.drop_zero]
   obtain ⟨hv0, hv1, hv2, hv3, hv4, hv5, hv6, -⟩ := hv
   have hV0 : (fun z_ _ => z_ = .pointer (some ⟨wr.heap.size, 2, none⟩)) (X 66) w6 := hv0; clear hv0; have hv0 := hV0; clear hV0; generalize X 66 = X66 at *
   have hV1 : (fun z_ _ => z_ = .slice (Q k).1 (Q k).2.1 (Q k).2.2) (X 67) w6 := hv1; clear hv1; have hv1 := hV1; clear hV1; generalize X 67 = X67 at *
   have hV2 : (fun z_ _ => z_ = .int .i64 (((Q k).2.1 : Nat) : Int)) (X 68) w6 := hv2; clear hv2; have hv2 := hV2; clear hV2; generalize X 68 = X68 at *
   have hV3 : (fun z_ _ => z_ = .agg #[.bool (d k), .int .i64 (v k), .slice (Qh k).1 (Qh k).2.1 (Qh k).2.2]) (X 69) w6 := hv3; clear hv3; have hv3 := hV3; clear hV3; generalize X 69 = X69 at *
   have hV4 : (fun z_ _ => z_ = .int .i64 (szf (v k))) (X 70) w6 := hv4; clear hv4; have hv4 := hV4; clear hV4; generalize X 70 = X70 at *
   have hV5 : (fun z_ _ => z_ = .bool false) (X 71) w6 := hv5; clear hv5; have hv5 := hV5; clear hV5; generalize X 71 = X71 at *
   have hV6 : (fun z_ _ => z_ = .bool false) (X 65) w6 := hv6; clear hv6; have hv6 := hV6; clear hV6; generalize X 65 = X65 at *
   obtain rfl := hv0
   obtain rfl := hv1
   obtain rfl := hv2
   obtain rfl := hv3
   obtain rfl := hv4
   obtain rfl := hv5
   obtain rfl := hv6
   have RC := η (J6 RB5.out hb); clear hb
   have FG_6 := η (FG.out.below RC.out ν)
   have FH_6 := η (FH.out.below RC.out ν)
   have HB6 := η (HB9.out.trans (RC.out.mono HB9.out.size))
   clear HB9 FG FH RB5
   refine wpListIn_nil ?_
   have p0 := FG_6.out.cell 0 (v := .bool (d k)) rfl; have p1 := FG_6.out.cell 1 (v := .int .i64 (v k)) rfl; have p2 := FG_6.out.cell 2 (v := .slice (Q k).1 (Q k).2.1 (Q k).2.2) rfl
   have r0 := FH_6.out.cell 0 (v := .bool (d k)) rfl; have r1 := FH_6.out.cell 1 (v := .int .i64 (v k)) rfl; have r2 := FH_6.out.cell 2 (v := .slice (Qh k).1 (Qh k).2.1 (Qh k).2.2) rfl
   go_wp2_with fail
   go_roundw
   case rel => exact ⟨k + 1, hlt, rfl, by go_num, HB6.out⟩
   case measure => exact hms.out
  ·obtain rfl : k = n := by omega
   have c0 := HXR.out.cell 0 (v := .int .i64 op) rfl; have c1 := HXR.out.cell 1 (v := .int .i64 0) rfl; have c2 := HXR.out.cell 2 (v := .slice (some ⟨hb_, hoff, none⟩) k hc) rfl; have c3 := HXR.out.cell 3 (v := .int .i64 p) rfl; have c4 := HXR.out.cell 4 (v := .slice (some ⟨b, off, none⟩) k c) rfl; have c5 := HXR.out.cell 5 (v := .slice PA np pc) rfl; have c6 := HXR.out.cell 6 (v := .slice QA nq qc) rfl
   have HO4 := η (HO3.out.below HBR.out ν)
   have HB13' := η (HB13.out.trans (HBR.out.mono HB13.out.size))
   clear HO3 HB13 HX3 HBR
   have hxlt := HXR.out.lt
   go_wp2_with fail
   clear c0 c1 c2 c3 c4 c5 c6 hxlt
   have HW4 := η (show Wr (wr.alloc (.cells #[.slice A' (hdrB op k d v p).length c'] 142)) w1.heap.size wr.heap.size (hdrB op k d v p) from ⟨HB13'.out.size, .slice A' (hdrB op k d v p).length c', Bx.new _ _ _, HO4.out.alloc _⟩)
   have HB14 := η (HB13'.out.alloc HB13'.out.size (.cells #[.slice A' (hdrB op k d v p).length c'] 142))
   have HX4 := η (HXR.out.alloc (.cells #[.slice A' (hdrB op k d v p).length c'] 142))
   have HNE := η (show some w.heap.size ≠ some wr.heap.size from by have := HXR.out.lt; simp; omega)
   have HLH := η (show (hdrB op k d v p).length ≤ 68 from ZbX (by omega))
   generalize hz : wr.heap.size = bw at *
   clear hz
   generalize wr.alloc (.cells #[.slice A' (hdrB op k d v p).length c'] 142) = w4 at *
   clear HXR HB13' HO4 HB
   go_loopw [95] (fun ir wq => ∃ m : Nat, m ≤ k ∧ ir = .int .i64 (m : Int) ∧ Wr wq w1.heap.size bw (hdrB op k d v p ++ rgsB Q F G m) ∧ Fr w1.heap.size (some bw) w4 wq) (fun i _ => k - (intOf i).toNat)
   case atStart => exact ⟨0, by omega, rfl, by simpa [rgsB] using HW4.out, Fr.refl _ _ _⟩
   case round =>
    obtain ⟨m, hm, rfl, hw, hfr⟩ := hrel
    have HWR := η hw; have HFR := η hfr; clear hw hfr
    have HBW := η (HB14.out.trans HFR.out.below)
    have HB := η (HB1.out.trans (HBW.out.mono HB1.out.size))
    by_cases hlt : m < k
    ·have p0 : wr.cell? ⟨b, off + m * 3, none⟩ = some (.bool (d m)) := (HB.out.cell (p := ⟨b, off + m * 3, none⟩) HBL.out).trans (HC.out m hlt).1
     have p1 : wr.cell? ⟨b, off + m * 3 + 1, none⟩ = some (.int .i64 (v m)) := (HB.out.cell (p := ⟨b, off + m * 3 + 1, none⟩) HBL.out).trans (HC.out m hlt).2.1
     have p2 : wr.cell? ⟨b, off + m * 3 + 2, none⟩ = some (.slice (Q m).1 (Q m).2.1 (Q m).2.2) := (HB.out.cell (p := ⟨b, off + m * 3 + 2, none⟩) HBL.out).trans (HC.out m hlt).2.2
     have hms := η (show k - (intOf (.int .i64 ((m : Int) + 1))).toNat < k - (intOf (.int .i64 (m : Int))).toNat from by simp [intOf]; omega)
     have HLN := η (show (hdrB op k d v p ++ rgsB Q F G m).length ≤ 500000 from by have := ZaB F G (v := v) (n := k) HO.out.num (k := m) (by omega) (by omega); rw [List.length_append]; have := HLH.out; omega)
     have HQN := η (show (Q m).2.1 ≤ 10000 from by have := HO.out.num m hlt; have := Zaw (v m); omega)
     go_wp2_with fail
     clear p0 p1 p2
     have B9 := η (show Below wr.heap.size wr (wr.alloc (.cells #[.bool (d m), .int .i64 (v m), .slice (Q m).1 (Q m).2.1 (Q m).2.2] 48)) from J8 J0)
     refine (ZbO w1 w1.heap.size bw (Q m).1 (Q m).2.1 (Q m).2.2 (F m) (G m) HQN.out _ HLN.out _ (Nat.le_trans HBW.out.size B9.out.size) ν ((HP.out.pts m hlt).below HB1.out ν) (HBW.out.trans (B9.out.mono HBW.out.size)) (HWR.out.below B9.out ν)).mono ?_
     rintro e w5 ⟨rfl, h5, g5⟩
     have HW5 := η h5; have HF5 := η ((HFR.out.alloc HBW.out.size (.cells #[.bool (d m), .int .i64 (v m), .slice (Q m).1 (Q m).2.1 (Q m).2.2] 48)).trans g5); clear h5 g5
     go_wp2_with fail
     go_roundw
     case rel => exact ⟨m + 1, hlt, by go_num, by rw [rgsB, ← List.append_assoc]; exact HW5.out, HF5.out⟩
     case measure => exact hms.out
    ·obtain rfl : m = k := by omega
     have HX5 := η (HFR.out.keep _ _ _ (by decide) HNE.out HX4.out)
     have c5 := HX5.out.cell 5 (v := .slice PA np pc) rfl
     have HLN := η (show (hdrB op m d v p ++ rgsB Q F G m).length ≤ 500000 from by have := ZaB F G (v := v) (n := m) HO.out.num (k := m) (by omega) (by omega); rw [List.length_append]; have := HLH.out; omega)
     go_wp2_with fail
     clear c5
     refine (ZbO w1 w1.heap.size bw PA np pc f g (by have := HNP.out.1; omega) _ HLN.out _ HBW.out.size ν (HPP.out.below HB1.out ν) HBW.out HWR.out).mono ?_
     rintro e w5 ⟨rfl, h5, g5⟩
     have HW5 := η h5; have HX6 := η (g5.keep _ _ _ (by decide) HNE.out HX5.out); have HB15 := η (HBW.out.trans g5.below); clear h5 g5
     have c6 := HX6.out.cell 6 (v := .slice QA nq qc) rfl
     go_wp2_with fail
     have HLQ := η (show (hdrB op m d v p ++ rgsB Q F G m ++ ptsB f g np).length ≤ 500000 from by have := ZaB F G (v := v) (n := m) HO.out.num (k := m) (by omega) (by omega); have := HLH.out; have := HNP.out.1; rw [List.length_append, List.length_append, JP]; omega)
     clear c6
     refine (Zif w1 w1.heap.size bw QA nq qc qf qg qd (by have := HNP.out.2; omega) _ HLQ.out _ HB15.out.size ν (HQQ.out.below HB1.out ν) HB15.out HW5.out).mono ?_
     rintro e w6 ⟨rfl, h6, g6⟩
     have HW6 := η h6; have HB16 := η (HB15.out.trans g6.below); clear h6 g6
     obtain ⟨-, v5, hbw, hov⟩ := HW6.out
     have cw := hbw.cell 0 (v := v5) rfl
     clear hbw hov
     go_wp2_with fail
     go_ret2
     exact ⟨⟨_, rfl⟩, HB1.out.trans (HB16.out.mono HB1.out.size)⟩
theorem OwB.snoc22 {w : World} {base : Nat} {v : Value} {l : List Int} {n : Nat} {x y : Int} (h : w.ownsRow base 5 1 v n (Jz l ++ [.int .u8 x, .int .u8 y])) (hn : n = l.length + 2) : OwB w base v (l ++ [x, y]) := OwB.snoc2 h hn
set_option maxRecDepth 100000 in
theorem ZdT (HA : Option Addr) (n hc : Nat) (d : Nat → Bool) (v : Nat → Int) (Qh : Nat → Option Addr × Nat × Nat) (x : Int) (N qn g : Nat) (h : Nat → Int) (hx : x = 0 ∨ x = 1) (hN : N ≤ qn) (hN0 : x = 0 → N = 0) (h1 : 1 ≤ qn) (hq : qn ≤ 1000) (hl : ∀ i, i < qn → (h i < 18446744073709551616 ↔ i < N)) (w : World) (hh : Rgs w HA n hc d v Qh) (hqh : ∀ k, k < n → (Qh k).2.1 = 0) (ho : OkK n v) (hr : Rcs w (some ⟨g, 0, none⟩) qn qn h) :
  Calls Tryz.prog 56 #[.agg #[.int .i64 5, .int .i64 0, .slice HA n hc, .int .i64 (qn : Int)], .agg #[.int .i64 x, .int .i64 (N : Int), .slice (some ⟨g, 0, none⟩) qn qn]] w fun e w' => (∃ A L c, e = .returned (.tuple #[.slice A L c, .int .i64 0]) ∧ ([0, x, (N : Int) % 256, (N : Int) / 256] ++ recB h qn).length = L ∧ By w' A c ([0, x, (N : Int) % 256, (N : Int) / 256] ++ recB h qn)) ∧ Below w.heap.size w w' := by
 obtain ⟨i0, hi0, hz0, hz1, hz2⟩ := info_parts Zbh
 have HHR := η hh; have HQH := η hqh; have HO := η ho; have HR := η hr; have HL := η hl; have HX0 := η hx; have HN0 := η hN0; have HN := η hN
 have e0 : IntKind.u8.wrap x = x := by rw [IntKind.wrap_u8]; omega
 have e1 : IntKind.u8.wrap (N : Int) = (N : Int) % 256 := IntKind.wrap_u8 _
 have e2 : IntKind.u8.wrap ((N : Int) / 256) = (N : Int) / 256 := by rw [IntKind.wrap_u8]; omega
 clear hh hqh ho hr hl hx hN0
 go_enter Tryz.func56, Tryz.ntmps56
 go_wp2_with fail
 have HH := η (show Bx ((w.alloc (.cells #[.int .i64 5, .int .i64 0, .slice HA n hc, .int .i64 (qn : Int)] 28)).alloc (.cells #[.int .i64 x, .int .i64 (N : Int), .slice (some ⟨g, 0, none⟩) qn qn] 102)) w.heap.size #[.int .i64 5, .int .i64 0, .slice HA n hc, .int .i64 (qn : Int)] 28 from (Bx.new _ _ _).alloc _)
 have HA_ := η (show Bx ((w.alloc (.cells #[.int .i64 5, .int .i64 0, .slice HA n hc, .int .i64 (qn : Int)] 28)).alloc (.cells #[.int .i64 x, .int .i64 (N : Int), .slice (some ⟨g, 0, none⟩) qn qn] 102)) (w.heap.size + 1) #[.int .i64 x, .int .i64 (N : Int), .slice (some ⟨g, 0, none⟩) qn qn] 102 from Jb (by simp))
 have HB1 := η (show Below w.heap.size w ((w.alloc (.cells #[.int .i64 5, .int .i64 0, .slice HA n hc, .int .i64 (qn : Int)] 28)).alloc (.cells #[.int .i64 x, .int .i64 (N : Int), .slice (some ⟨g, 0, none⟩) qn qn] 102)) from J8 (J8 J0))
 generalize ((w.alloc (.cells #[.int .i64 5, .int .i64 0, .slice HA n hc, .int .i64 (qn : Int)] 28)).alloc (.cells #[.int .i64 x, .int .i64 (N : Int), .slice (some ⟨g, 0, none⟩) qn qn] 102)) = w1 at *
 have c0 := HH.out.cell 0 (v := .int .i64 5) rfl; have c1 := HH.out.cell 1 (v := .int .i64 0) rfl; have c2 := HH.out.cell 2 (v := .slice HA n hc) rfl; have c3 := HH.out.cell 3 (v := .int .i64 (qn : Int)) rfl
 go_wp2_with fail
 clear c0 c1 c2 c3
 refine (ZbE 5 qn (.inr ⟨rfl, by omega, by omega⟩) HA n hc d v Qh HO.out HQH.out _ (HHR.out.below HB1.out ν)).mono ?_
 rintro e w2 ⟨⟨v_, rfl, -⟩, B⟩
 have HH2 := η (HH.out.below B ν); have HA2 := η (HA_.out.below B ν); have HB2 := η (HB1.out.trans (B.mono HB1.out.size)); clear B HH HA_ HB1
 have c0 := HH2.out.cell 0 (v := .int .i64 5) rfl; have c1 := HH2.out.cell 1 (v := .int .i64 0) rfl; have c2 := HH2.out.cell 2 (v := .slice HA n hc) rfl; have c3 := HH2.out.cell 3 (v := .int .i64 (qn : Int)) rfl
 have a0 := HA2.out.cell 0 (v := .int .i64 x) rfl; have a1 := HA2.out.cell 1 (v := .int .i64 (N : Int)) rfl; have a2 := HA2.out.cell 2 (v := .slice (some ⟨g, 0, none⟩) qn qn) rfl
 go_wp2_with fail
 clear c0 c1 c2 c3 a0 a1 a2
 refine (Zdu HA n hc x N qn g h HX0.out HN.out HN0.out hq HL.out _ (HR.out.below HB2.out ν)).mono ?_
 rintro e w3 ⟨rfl, B⟩
 have HH3 := η (HH2.out.below B ν); have HA3 := η (HA2.out.below B ν); have HB3 := η (HB2.out.trans (B.mono HB2.out.size)); clear B HH2 HA2 HB2
 have a0 := HA3.out.cell 0 (v := .int .i64 x) rfl
 have B34 := η (show Below w3.heap.size w3 ((w3.alloc (.cells #[.int .u8 0, .int .u8 x] 5)).alloc (.cells #[.slice (some ⟨w3.heap.size, 0, none⟩) 2 2] 142)) from J8 (J8 J0))
 have HH4 := η (HH3.out.below B34.out ν); have HA4 := η (HA3.out.below B34.out ν); have HB4 := η (HB3.out.trans (B34.out.mono HB3.out.size))
 have HW4 := η (show Bx ((w3.alloc (.cells #[.int .u8 0, .int .u8 x] 5)).alloc (.cells #[.slice (some ⟨w3.heap.size, 0, none⟩) 2 2] 142)) (w3.heap.size + 1) #[.slice (some ⟨w3.heap.size, 0, none⟩) 2 2] 142 from Jb (by simp))
 have HO4 := η (show ((w3.alloc (.cells #[.int .u8 0, .int .u8 x] 5)).alloc (.cells #[.slice (some ⟨w3.heap.size, 0, none⟩) 2 2] 142)).ownsRow w3.heap.size 5 1 (.slice (some ⟨w3.heap.size, 0, none⟩) 2 2) 2 (Jz [0, x]) from ⟨rfl, .inr ⟨w3.heap.size, 2, #[.int .u8 0, .int .u8 x], rfl, Nat.le_refl _, (show Bx _ _ _ _ from (Bx.new _ _ _).alloc _), Nat.le_refl _, by decide, rfl, rfl⟩⟩)
 have HS4 := η (show ((w3.alloc (.cells #[.int .u8 0, .int .u8 x] 5)).alloc (.cells #[.slice (some ⟨w3.heap.size, 0, none⟩) 2 2] 142)).heap.size = w3.heap.size + 1 + 1 from by simp)
 have c0 := HH4.out.cell 0 (v := .int .i64 5) rfl
 go_wp2_with fail
 clear c0 a0
 generalize ((w3.alloc (.cells #[.int .u8 0, .int .u8 x] 5)).alloc (.cells #[.slice (some ⟨w3.heap.size, 0, none⟩) 2 2] 142)) = w4 at *
 have HC := η (JE (w := w4.drew) (b := w4.drew.heap.size) rfl (.int .u8 ((N : Int) % 256)) (.int .u8 ((N : Int) / 256)) 5)
 have HWB := η (show Bx (w4.drew.alloc (.cells #[.int .u8 ((N : Int) % 256), .int .u8 ((N : Int) / 256)] 5)) (w3.heap.size + 1) #[.slice (some ⟨w3.heap.size, 0, none⟩) 2 2] 142 from (Jf HW4.out).alloc _)
 have HAB := η (show Bx (w4.drew.alloc (.cells #[.int .u8 ((N : Int) % 256), .int .u8 ((N : Int) / 256)] 5)) (w.heap.size + 1) #[.int .i64 x, .int .i64 (N : Int), .slice (some ⟨g, 0, none⟩) qn qn] 102 from (Jf HA4.out).alloc _)
 have HF1 := η (show Fr w3.heap.size (some (w3.heap.size + 1)) w4 (w4.drew.alloc (.cells #[.int .u8 ((N : Int) % 256), .int .u8 ((N : Int) / 256)] 5)) from (Fr.refl _ _ _).drew.alloc (by have := HS4.out; show w3.heap.size ≤ w4.heap.size; omega) _)
 have HO1 := η (show (w4.drew.alloc (.cells #[.int .u8 ((N : Int) % 256), .int .u8 ((N : Int) / 256)] 5)).ownsRow w3.heap.size 5 1 (.slice (some ⟨w3.heap.size, 0, none⟩) 2 2) 2 (Jz [0, x]) from (World.ownsRow.drew HO4.out).alloc _)
 have HSZ1 := η (show w3.heap.size ≤ (w4.drew.alloc (.cells #[.int .u8 ((N : Int) % 256), .int .u8 ((N : Int) / 256)] 5)).heap.size from by have := HS4.out; simp; omega)
 have c0 := HW4.out.cell 0 (v := .slice (some ⟨w3.heap.size, 0, none⟩) 2 2) rfl
 have a1 := HA4.out.cell 1 (v := .int .i64 (N : Int)) rfl
 have hlw := HW4.out.lt; have hla := HA4.out.lt
 have hne : ¬ (w4.heap.size = w3.heap.size + 1) := by omega
 have hne2 : ¬ (w4.heap.size = w.heap.size + 1) := by omega
 go_region_law ((refine Za3 rfl _ _ 24 rfl w3.heap.size 5 i0 (.int .u8 0) 1 1 Tryz.underlying24 hi0 hz0 hz1 hz2 rfl (by decide) _ _ _ rfl HO1.out ⟨w4.heap.size, 0, none⟩ 2 2 [.int .u8 ((N : Int) % 256), .int .u8 ((N : Int) / 256)] rfl rfl HC.out (by simp [Value.oneCell']) (by unfold maxLen; omega) (by omega) HSZ1.out ?_; intro v' w5 hown2 hgrow; obtain ⟨g2, cap2, rfl, -, -⟩ := hown2.form (by omega); have HB5 := η (ZaT HWB.out (by decide) hgrow HO1.out); have HA5 := η (ZaT HAB.out (by decide) hgrow HO1.out); have HF5 := η (HF1.out.grown hgrow HO1.out HSZ1.out); have HO5 := η hown2; have HS5 := η (Nat.le_trans HSZ1.out hgrow.size); clear hown2 hgrow c0 a1; have c0 := HB5.out.cell 0 (v := .slice (some ⟨w3.heap.size, 0, none⟩) 2 2) rfl; have z0 := HB5.out.free 0))
 all_goals
  have HO6 := η (show OwB w5 w3.heap.size (.slice (some ⟨g2, 0, none⟩) 4 cap2) [0, x, (N : Int) % 256, (N : Int) / 256] from OwB.snoc22 (l := [0, x]) HO5.out rfl)
  have HWR := η (show Wr (w5.setCell ⟨w3.heap.size + 1, 0, none⟩ (.slice (some ⟨g2, 0, none⟩) 4 cap2)) w3.heap.size (w3.heap.size + 1) [0, x, (N : Int) % 256, (N : Int) / 256] from ⟨Nat.le_succ _, _, HB5.out.set 0 _, HO6.out.setOther HB5.out (by decide)⟩)
  have HA6 := η (show Bx (w5.setCell ⟨w3.heap.size + 1, 0, none⟩ (.slice (some ⟨g2, 0, none⟩) 4 cap2)) (w.heap.size + 1) #[.int .i64 x, .int .i64 (N : Int), .slice (some ⟨g, 0, none⟩) qn qn] 102 from HA5.out.other _ (by have := HA3.out.lt; simp; omega))
  have F6 := η (HF5.out.setEx (i := 0) (v := .slice (some ⟨g2, 0, none⟩) 4 cap2) (Nat.le_succ _))
  have B36 := η (B34.out.trans F6.out.below)
  clear HO6 HO5 HB5 HF5 HA5 HWB HAB HO1 HF1 HC c0 z0 F6 HS5 HSZ1 HO4 HW4 HA4 HH4 HB4 B34
  generalize (w5.setCell ⟨w3.heap.size + 1, 0, none⟩ (.slice (some ⟨g2, 0, none⟩) 4 cap2)) = w6 at *
  have a2 := HA6.out.cell 2 (v := .slice (some ⟨g, 0, none⟩) qn qn) rfl
  go_wp2_with fail
  clear a2
  refine (ZhC w3 w3.heap.size (w3.heap.size + 1) _ qn qn h (by omega) [0, x, (N : Int) % 256, (N : Int) / 256] (by simp) _ B36.out.size ν (HR.out.below HB3.out ν) B36.out HWR.out).mono ?_
  rintro e w7 ⟨rfl, hw7, f7⟩
  have HB7 := η (HB3.out.trans ((B36.out.trans f7.below).mono HB3.out.size)); clear f7
  obtain ⟨-, v7, hbx, hov⟩ := hw7
  obtain ⟨A7, c7, rfl, hby⟩ := hov.by
  have c0 := hbx.cell 0 rfl
  clear hbx hov
  have HBY := η hby; clear hby
  go_wp2_with fail
  go_ret2
  exact ⟨⟨_, _, _, rfl, by simp, HBY.out⟩, HB7.out⟩
theorem Zig (w : World) (A : Option Addr) (f g : Nat → Int) : Pts w A 0 0 f g :=
 ⟨Nat.le_refl _, Nat.zero_le _, fun i hi => absurd hi (Nat.not_lt_zero _), fun h => absurd h (Nat.lt_irrefl _)⟩
theorem Zj8 {w : World} {g n c k : Nat} {h : Nat → Int} {x y : Int} {z : Value} {t : TypeId} (a : Rcs w (some ⟨g, 0, none⟩) n c h) (hn : 0 < n) (hb : Bx w k #[.int .i64 x, .int .i64 y, z] t) : g ≠ k := by
 rintro rfl
 obtain ⟨b, o, e, _, hc⟩ := a.at_ hn
 obtain ⟨rfl, rfl⟩ : g = b ∧ 0 = o := by simpa using e
 have h1 := (hc 0 hn).1
 unfold Bx at hb
 simp [World.cell?, hb] at h1
theorem ZjL {w : World} {g n c k : Nat} {h : Nat → Int} {x : Value} {t : TypeId} (a : Rcs w (some ⟨g, 0, none⟩) n c h) (hn : 0 < n) (hb : Bx w k #[x] t) : g ≠ k := by
 rintro rfl
 obtain ⟨b, o, e, _, hc⟩ := a.at_ hn
 obtain ⟨rfl, rfl⟩ : g = b ∧ 0 = o := by simpa using e
 have h1 := (hc 0 hn).2
 unfold Bx at hb
 simp [World.cell?, hb] at h1
theorem ZgP (A : Option Addr) (n c : Nat) (d : Nat → Bool) (v : Nat → Int) (Q : Nat → Option Addr × Nat × Nat) (F G : Nat → Nat → Int) (QA : Option Addr) (qn qc : Nat) (qf qg qd : Nat → Int) (h0 : 1 ≤ qn) (h9 : qn ≤ 100) (V : Bool) (K : Nat → Int) (X : Int) (N : Nat) (hV : allB (vR v Q F G) n = V) (hK : Zag V d v Q F G n qf qg qd = K) (hX : b2i V = X) (hN : Jy K qn = N) (w : World) (hT : TabM w) (hr : Rgs w A n c d v Q) (hp : RgP w n Q F G) (ho : OkR n v Q) (hq : Qus w QA qn qc qf qg qd) :
  Calls Tryz.prog 86 #[.pointer none, .slice A n c, .slice QA qn qc] w fun e w' => (∃ g h', e = .returned (.tuple #[.agg #[.int .i64 X, .int .i64 (N : Int), .slice (some ⟨g, 0, none⟩) qn qn], .int .i64 0]) ∧ IsSort K qn h' ∧ Rcs w' (some ⟨g, 0, none⟩) qn qn h') ∧ Below w.heap.size w w' := by
 subst hX hN hK hV
 exact ZhB A n c d v Q F G QA qn qc qf qg qd h0 h9 w hT hr hp ho hq
set_option maxRecDepth 100000 in
theorem ZeG (HA : Option Addr) (hc : Nat) (Qh : Nat → Option Addr × Nat × Nat) (A : Option Addr) (n c : Nat) (d : Nat → Bool) (v : Nat → Int) (Q : Nat → Option Addr × Nat × Nat) (F G : Nat → Nat → Int) (pb : Nat) (QA : Option Addr) (nq qc : Nat) (f g qd : Nat → Int) (h0 : 1 ≤ nq) (h9 : nq ≤ 100) (V : Bool) (K : Nat → Int) (X : Int) (N : Nat) (w : World) (hV : allB (vR v Q F G) n = V) (hK : Zag V d v Q F G n f g qd = K) (hX : b2i V = X) (hN : Jy K nq = N) (hT : TabM w) (hh : Rgs w HA n hc d v Qh) (hq : ∀ k, k < n → (Qh k).2.1 = 0) (hr : Rgs w A n c d v Q) (hp : RgP w n Q F G) (ho : OkR n v Q) (hqq : Qus w QA nq qc f g qd) :
  Calls Tryz.prog 55 #[.pointer none, .agg #[.int .i64 5, .int .i64 0, .slice HA n hc, .int .i64 (nq : Int), .slice A n c, .slice (some ⟨pb, 0, none⟩) 0 0, .slice QA nq qc]] w fun e w' => (∃ gb h', e = .returned (.tuple #[.agg #[.int .i64 X, .int .i64 (N : Int), .slice (some ⟨gb, 0, none⟩) nq nq], .int .i64 0]) ∧ IsSort K nq h' ∧ Rcs w' (some ⟨gb, 0, none⟩) nq nq h') ∧ Below w.heap.size w w' := by
 have HB0 := η (Below.refl w.heap.size w); have FT := η hT; have FH := η hh; have HQ := η hq; have FG := η hr; have FP := η hp; have HO := η ho; have FX := η hqq
 have hcp3 := hqq.cap; have hmx3 := hqq.max; unfold maxLen at hmx3
 have HV := η hV; have HK := η hK; have HX := η hX; have HN := η hN
 have HOPN := η (show OpN 5 (nq : Int) 0 nq from .inr ⟨rfl, by omega, by omega, rfl, rfl⟩)
 clear hT hh hq hr hp ho hqq hV hK hX hN
 go_enter Tryz.func55, Tryz.ntmps55
 go_wp2_with fail
 have B : Below w.heap.size w ((w.alloc (.cells #[.int .i64 5, .int .i64 0, .slice HA n hc, .int .i64 (nq : Int), .slice A n c, .slice (some ⟨pb, 0, none⟩) 0 0, .slice QA nq qc] 99)).alloc (.cells #[.int .i64 0, .int .i64 0, .slice none 0 0] 102)) := ((HB0.out.alloc HB0.out.size _).alloc (HB0.out.alloc HB0.out.size _).size _)
 have C : Below w.heap.size w ((w.alloc (.cells #[.int .i64 5, .int .i64 0, .slice HA n hc, .int .i64 (nq : Int), .slice A n c, .slice (some ⟨pb, 0, none⟩) 0 0, .slice QA nq qc] 99)).alloc (.cells #[.int .i64 0, .int .i64 0, .slice none 0 0] 102)) := (((Below.refl w.heap.size w).alloc ν _).alloc (by simp; try omega) _)
 have X0 : Bx ((w.alloc (.cells #[.int .i64 5, .int .i64 0, .slice HA n hc, .int .i64 (nq : Int), .slice A n c, .slice (some ⟨pb, 0, none⟩) 0 0, .slice QA nq qc] 99)).alloc (.cells #[.int .i64 0, .int .i64 0, .slice none 0 0] 102)) (w.heap.size) #[.int .i64 5, .int .i64 0, .slice HA n hc, .int .i64 (nq : Int), .slice A n c, .slice (some ⟨pb, 0, none⟩) 0 0, .slice QA nq qc] 99 := by simpa using ((Bx.new w #[.int .i64 5, .int .i64 0, .slice HA n hc, .int .i64 (nq : Int), .slice A n c, .slice (some ⟨pb, 0, none⟩) 0 0, .slice QA nq qc] 99).alloc _)
 have X1 : Bx ((w.alloc (.cells #[.int .i64 5, .int .i64 0, .slice HA n hc, .int .i64 (nq : Int), .slice A n c, .slice (some ⟨pb, 0, none⟩) 0 0, .slice QA nq qc] 99)).alloc (.cells #[.int .i64 0, .int .i64 0, .slice none 0 0] 102)) (w.heap.size + 1) #[.int .i64 0, .int .i64 0, .slice none 0 0] 102 := by simpa using (Bx.new (w.alloc (.cells #[.int .i64 5, .int .i64 0, .slice HA n hc, .int .i64 (nq : Int), .slice A n c, .slice (some ⟨pb, 0, none⟩) 0 0, .slice QA nq qc] 99)) #[.int .i64 0, .int .i64 0, .slice none 0 0] 102)
 have FT_1 := η (FT.out.below C ν)
 have FH_1 := η (FH.out.below C ν)
 have FG_1 := η (FG.out.below C ν)
 have FP_1 := η (FP.out.below C ν)
 have FX_1 := η (FX.out.below C ν)
 have HB1 := η B
 have FR_1 := η X0
 have FZ_1 := η X1
 clear B C X0 X1 HB0 FT FH FG FP FX
 generalize ((w.alloc (.cells #[.int .i64 5, .int .i64 0, .slice HA n hc, .int .i64 (nq : Int), .slice A n c, .slice (some ⟨pb, 0, none⟩) 0 0, .slice QA nq qc] 99)).alloc (.cells #[.int .i64 0, .int .i64 0, .slice none 0 0] 102)) = w1 at *
 have vR0 := FR_1.out.cell 0 (v := .int .i64 5) rfl
 have vR1 := FR_1.out.cell 1 (v := .int .i64 0) rfl
 have vR2 := FR_1.out.cell 2 (v := .slice HA n hc) rfl
 have vR3 := FR_1.out.cell 3 (v := .int .i64 (nq : Int)) rfl
 have vR4 := FR_1.out.cell 4 (v := .slice A n c) rfl
 have vR5 := FR_1.out.cell 5 (v := .slice (some ⟨pb, 0, none⟩) 0 0) rfl
 have vR6 := FR_1.out.cell 6 (v := .slice QA nq qc) rfl
 go_wp2_with fail
 refine (ZeF 5 nq 0 nq HOPN.out HA hc Qh A n c d v Q F G (some ⟨pb, 0, none⟩) 0 f g QA qc f g qd _ FH_1.out HQ.out FG_1.out FP_1.out HO.out (Zig _ _ _ _) FX_1.out).mono ?_
 rintro e w2 ⟨⟨v_, rfl⟩, B⟩
 clear vR0 vR1 vR2 vR3 vR4 vR5 vR6
 have HB2 := η (HB1.out.trans (B.mono HB1.out.size))
 have FT_2 := η (FT_1.out.below B ν)
 have FH_2 := η (FH_1.out.below B ν)
 have FG_2 := η (FG_1.out.below B ν)
 have FP_2 := η (FP_1.out.below B ν)
 have FX_2 := η (FX_1.out.below B ν)
 have FR_2 := η (FR_1.out.below B ν)
 have FZ_2 := η (FZ_1.out.below B ν)
 clear B  HB1 FT_1 FH_1 FG_1 FP_1 FX_1 FR_1 FZ_1
 have vR0 := FR_2.out.cell 0 (v := .int .i64 5) rfl
 have vR1 := FR_2.out.cell 1 (v := .int .i64 0) rfl
 have vR2 := FR_2.out.cell 2 (v := .slice HA n hc) rfl
 have vR3 := FR_2.out.cell 3 (v := .int .i64 (nq : Int)) rfl
 have vR4 := FR_2.out.cell 4 (v := .slice A n c) rfl
 have vR5 := FR_2.out.cell 5 (v := .slice (some ⟨pb, 0, none⟩) 0 0) rfl
 have vR6 := FR_2.out.cell 6 (v := .slice QA nq qc) rfl
 go_wp2_with fail
 refine (ZgP A n c d v Q F G QA nq qc f g qd h0 h9 V K X N HV.out HK.out HX.out HN.out _ FT_2.out FG_2.out FP_2.out HO.out FX_2.out).mono ?_
 rintro e w3 ⟨⟨gb, h', rfl, his, hrc⟩, B⟩
 clear vR0 vR1 vR2 vR3 vR4 vR5 vR6
 have HB3 := η (HB2.out.trans (B.mono HB2.out.size))
 have FT_3 := η (FT_2.out.below B ν)
 have FH_3 := η (FH_2.out.below B ν)
 have FG_3 := η (FG_2.out.below B ν)
 have FP_3 := η (FP_2.out.below B ν)
 have FX_3 := η (FX_2.out.below B ν)
 have FR_3 := η (FR_2.out.below B ν)
 have FZ_3 := η (FZ_2.out.below B ν)
 have FS_3 := η hrc
 clear B hrc HB2 FT_2 FH_2 FG_2 FP_2 FX_2 FR_2 FZ_2
 have HIS := η his; clear his
 have z0 := FZ_3.out.cell 0 (v := .int .i64 0) rfl; have z1 := FZ_3.out.cell 1 (v := .int .i64 0) rfl; have z2 := FZ_3.out.cell 2 (v := .slice none 0 0) rfl; have y0 := FZ_3.out.free 0; have y1 := FZ_3.out.free 1; have y2 := FZ_3.out.free 2
 have hgz : gb ≠ w.heap.size + 1 := Zj8 FS_3.out (by omega) FZ_3.out
 go_wp2_with fail
 clear z0 z1 z2 y0 y1 y2
 have HZ := η (((FZ_3.out.set 0 (.int .i64 X)).set 1 (.int .i64 (N : Int))).set 2 (.slice (some ⟨gb, 0, none⟩) nq nq))
 have HBE := η (((HB3.out.setCell (p := ⟨w.heap.size + 1, 0, none⟩) (by show w.heap.size ≤ w.heap.size + 1; omega) (.int .i64 X)).setCell (p := ⟨w.heap.size + 1, 1, none⟩) (by show w.heap.size ≤ w.heap.size + 1; omega) (.int .i64 (N : Int))).setCell (p := ⟨w.heap.size + 1, 2, none⟩) (by show w.heap.size ≤ w.heap.size + 1; omega) (.slice (some ⟨gb, 0, none⟩) nq nq))
 have HRC := η (show Rcs (((w3.setCell ⟨w.heap.size + 1, 0, none⟩ (.int .i64 X)).setCell ⟨w.heap.size + 1, 1, none⟩ (.int .i64 (N : Int))).setCell ⟨w.heap.size + 1, 2, none⟩ (.slice (some ⟨gb, 0, none⟩) nq nq)) _ nq nq h' from (((FS_3.out.setFar (i := 0) (x := .int .i64 X) hgz).setFar (i := 1) (x := .int .i64 (N : Int)) hgz).setFar (i := 2) (x := .slice (some ⟨gb, 0, none⟩) nq nq) hgz))
 generalize (((w3.setCell ⟨w.heap.size + 1, 0, none⟩ (.int .i64 X)).setCell ⟨w.heap.size + 1, 1, none⟩ (.int .i64 (N : Int))).setCell ⟨w.heap.size + 1, 2, none⟩ (.slice (some ⟨gb, 0, none⟩) nq nq)) = wz at *
 have q0 := HZ.out.cell 0 (v := .int .i64 X) rfl
 have q1 := HZ.out.cell 1 (v := .int .i64 (N : Int)) rfl
 have q2 := HZ.out.cell 2 (v := .slice (some ⟨gb, 0, none⟩) nq nq) rfl
 refine bodyPost_ret (v := .tuple #[.agg #[.int .i64 X, .int .i64 (N : Int), .slice (some ⟨gb, 0, none⟩) nq nq], .int .i64 0]) (by simp [results, Tryz.results55, go_sem, q0, q1, q2]) rfl ⟨⟨gb, h', rfl, HIS.out, HRC.out⟩, HBE.out⟩
end Go.Proofs.YtjdiilkljgljkaaGreatDoor
