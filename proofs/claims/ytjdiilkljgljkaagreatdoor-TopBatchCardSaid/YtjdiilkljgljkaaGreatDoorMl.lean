/- Part l of the lemmas of TopBatch: contracts of functions of the program, and plain laws of numbers, bytes and memory. -/
import Derived.Test.YtjdiilkljgljkaaGreatDoorMc
import Derived.Test.YtjdiilkljgljkaaGreatDoorMh
import Derived.Test.YtjdiilkljgljkaaGreatDoorMj
import Derived.Deep.RegionHeld3
import Derived.Test.YtjdiilkljgljkaaGreatDoorMk
import Derived.Defers
import Derived.Recover
import Derived.Deep.DeepCutAuto
import Derived.Test.YtjdiilkljgljkaaGreatDoorMi
import Derived.Test.YtjdiilkljgljkaaGreatDoorMa
set_option maxHeartbeats 4000000
namespace Go.Proofs.YtjdiilkljgljkaaGreatDoor
set_option linter.unusedVariables false
set_option linter.unusedSimpArgs false
open Go.RowKit Wd
set_option maxRecDepth 100000 in
theorem Zfw (br : Nat) (x y z : Int) (hx : IsI x) (hy : IsI y) (hz : IsW z) (l : List Int) (w : World) (hr : Rd w br (quB x y z ++ l)) :
  Calls Tryz.prog 84 #[.pointer (some ⟨br, 0, none⟩)] w fun e w' => e = .returned (.agg #[.int .i64 x, .int .i64 y, .int .u64 z]) ∧ Rd w' br l ∧ w.grownBy w' (some br) := by
 have HR := η hr; have HX := η hx; have HY := η hy; have HZ := η hz; have HLT := η hr.lt; clear hr hx hy hz
 go_enter Tryz.func84, Tryz.ntmps84
 go_wp2_with fail
 have HB := η (Bx.new w #[.int .i64 0, .int .i64 0, .int .u64 0] 63)
 have HR1 := η (show Rd (w.alloc (.cells #[.int .i64 0, .int .i64 0, .int .u64 0] 63)) br (ptB x y ++ (le8 z ++ l)) from by have := HR.out.alloc (.cells #[.int .i64 0, .int .i64 0, .int .u64 0] 63); unfold quB at this; rw [List.append_assoc] at this; exact this)
 have HG1 := η (World.grownBy_alloc w (.cells #[.int .i64 0, .int .i64 0, .int .u64 0] 63) (some br))
 have HNE := η (show w.heap.size ≠ br from by have := HLT.out; omega)
 generalize w.alloc (.cells #[.int .i64 0, .int .i64 0, .int .u64 0] 63) = w1 at *
 clear HR
 refine (Zcd br x y HX.out HY.out _ _ HR1.out).mono ?_
 rintro e w2 ⟨rfl, h2, g2⟩
 have HR2 := η h2; have HB2 := η (JD HB.out HNE.out g2); have HG2 := η (HG1.out.trans g2); clear h2 g2 HR1 HB HG1
 go_wp2_with fail
 have HP := η (Bx.new w2 #[.int .i64 x, .int .i64 y] 23)
 have HR3 := η (HR2.out.alloc (.cells #[.int .i64 x, .int .i64 y] 23))
 have HB3 := η (HB2.out.alloc (.cells #[.int .i64 x, .int .i64 y] 23))
 have HG3 := η (HG2.out.trans (World.grownBy_alloc w2 (.cells #[.int .i64 x, .int .i64 y] 23) (some br)))
 have HNP := η (show w2.heap.size ≠ br from by have := HR2.out.lt; omega)
 have HNB := η (show w.heap.size ≠ w2.heap.size from by have := HB2.out.lt; omega)
 generalize hbp : w2.heap.size = bp at *
 clear hbp
 generalize w2.alloc (.cells #[.int .i64 x, .int .i64 y] 23) = w3 at *
 clear HR2 HB2 HG2
 have QC := η (show ∀ w', Bx w' bp #[.int .i64 x, .int .i64 y] 23 → w'.cell? ⟨bp, 0, none⟩ = some (.int .i64 x) ∧ w'.cell? ⟨bp, 1, none⟩ = some (.int .i64 y) from fun w' h => ⟨h.cell 0 rfl, h.cell 1 rfl⟩)
 refine wp_region_held_drew (S := fun w' => w'.cell? ⟨bp, 0, none⟩ = some (.int .i64 x) ∧ w'.cell? ⟨bp, 1, none⟩ = some (.int .i64 y)) (by kernel_rfl) (QC.out _ (Jf HP.out)) (fun hHeld => ?_)
 refine tk 0 hHeld ?_
 refine tk 1 hHeld ?_
 refine cl 2 (fun K hK => ?_)
 go_simp
 refine (Zbs br z HZ.out l _ HR3.out.drew).mono ?_
 rintro e w4 ⟨rfl, h4, g4⟩
 have HR4 := η h4; have HG4 := η ((HG3.out.trans (Zcw _ _)).trans g4); have HB4 := η (JD (Jf HB3.out) HNE.out g4); have HP4 := η (JD (Jf HP.out) HNP.out g4); clear h4 g4
 go_wp2_with fail
 refine hK.out _ _ (QC.out _ HP4.out) (fun hHeld2 => ?_)
 clear hK K hHeld; have hHeld := hHeld2; clear hHeld2
 try simp only [Act.put, List.setIfInBounds_toArray, List.set_cons_zero, List.set_cons_succ]
 refine tk 3 hHeld ?_
 refine cl 4 (fun K hK => ?_)
 have c0 := HB4.out.cell 0 (v := .int .i64 0) rfl; have c1 := HB4.out.cell 1 (v := .int .i64 0) rfl; have c2 := HB4.out.cell 2 (v := .int .u64 0) rfl; have z0 := HB4.out.free 0; have z1 := HB4.out.free 1; have z2 := HB4.out.free 2; go_simp; clear c0 c1 c2 z0 z1 z2
 skip
 skip
 refine hK.out _ _ (QC.out _ (((HP4.out.other _ HNB.out.symm).other _ HNB.out.symm).other _ HNB.out.symm)) (fun hHeld2 => ?_)
 clear hK K hHeld; have hHeld := hHeld2; clear hHeld2
 try simp only [Act.put, List.setIfInBounds_toArray, List.set_cons_zero, List.set_cons_succ]
 refine wpAnyH_done (by kernel_rfl) ?_ _
 clear hHeld
 have HB5 := η (((HB4.out.set 0 (.int .i64 x)).set 1 (.int .i64 y)).set 2 (.int .u64 z))
 have HR5 := η (show Rd (((w4.setCell ⟨w.heap.size, 0, none⟩ (.int .i64 x)).setCell ⟨w.heap.size, 1, none⟩ (.int .i64 y)).setCell ⟨w.heap.size, 2, none⟩ (.int .u64 z)) br l from
  Rd.setBox (Rd.setBox (Rd.setBox HR4.out HB4.out (by simp) HNE.out.symm) (HB4.out.set 0 _) (by simp) HNE.out.symm) ((HB4.out.set 0 _).set 1 _) (by simp) HNE.out.symm)
 have HG5 := η (Zaj (i := 2) (v := .int .u64 z) (Zaj (i := 1) (v := .int .i64 y) (Zaj (i := 0) (v := .int .i64 x) HG4.out (Nat.le_refl w.heap.size)) (Nat.le_refl w.heap.size)) (Nat.le_refl w.heap.size))
 clear HB4 HR4 HG4 HP4 HB3 HR3 HG3 HP
 generalize ((w4.setCell ⟨w.heap.size, 0, none⟩ (.int .i64 x)).setCell ⟨w.heap.size, 1, none⟩ (.int .i64 y)).setCell ⟨w.heap.size, 2, none⟩ (.int .u64 z) = w5 at *
 have q0 := HB5.out.cell 0 (v := .int .i64 x) rfl
 have q1 := HB5.out.cell 1 (v := .int .i64 y) rfl
 have q2 := HB5.out.cell 2 (v := .int .u64 z) rfl
 go_wp2_with fail
 refine bodyPost_ret (v := .agg #[.int .i64 x, .int .i64 y, .int .u64 z]) (by simp [results, Tryz.results84, go_sem, q0, q1, q2]) rfl ⟨rfl, HR5.out, HG5.out⟩
theorem Zj9 : (Tryz.prog.info? 63).map (fun i => (i.zero, i.size, i.bytes)) = some (some (.agg #[.int .i64 0, .int .i64 0, .int .u64 0]), 3, 24) := by kernel_rfl
set_option maxRecDepth 100000 in
theorem ZhD (br n : Nat) (hn : n ≤ 10000) (f g d : Nat → Int) (hi : ∀ i, i < n → IsI (f i) ∧ IsI (g i) ∧ IsW (d i)) (l : List Int) (w : World) (hr : Rd w br (qusB f g d n ++ l)) :
  Calls Tryz.prog 83 #[.int .i64 n, .func (.func 84) #[.pointer (some ⟨br, 0, none⟩)] #[]] w fun e w' => (∃ b, e = .returned (.slice (some ⟨b, 0, none⟩) n n) ∧ w.heap.size ≤ b ∧ Qus w' (some ⟨b, 0, none⟩) n n f g d ∧ (0 < n → ∃ cur, Bx w' b cur 63)) ∧ Rd w' br l ∧ w.grownBy w' (some br) := by
 obtain ⟨i0, hi0, hz0, hz1, hz2⟩ := info_parts Zj9
 have HR := η hr; have HI := η hi; have HN := η hn; have HLT := η hr.lt; clear hr hi hn
 go_enter Tryz.func83, Tryz.ntmps83
 go_wp2_with (at_make; refine wpList_make_full _ rfl _ _ 30 rfl w.heap.size 63 i0 _ 3 Tryz.underlying30 hi0 hz0 hz1 .i64 .i64 (n : Int) (n : Int) n rfl rfl rfl rfl ?b1 ?b2 ?b3 ?_)
 case b1 => rw [hz2]; have := HN.out; omega
 case b2 => have := HN.out; unfold maxLen; omega
 case b3 => exact Nat.le_refl _
 intro w1 hown hg
 have HG1 := η (show w.grownBy w1 (some br) from ⟨hg.os, hg.tape, hg.output, hg.size, fun k hk _ => hg.block k hk (by simp)⟩)
 have HO1 := η hown
 have HR1 := η (show Rd w1 br (qusF f g d 0 n ++ l) from by
  have h := HR.out; rw [ZiH] at h
  exact h.below (B := w.heap.size) ⟨hg.os, hg.tape, hg.output, hg.size, fun k hk => hg.block k hk (by simp)⟩ ν)
 clear hown hg HR
 have HBL := η (show 0 < n → ∃ cur, Bx w1 w.heap.size cur 63 ∧ cur.size = n * 3 ∧ NoB cur from fun h => ⟨_, Zg6 HO1.out h, size_madeCells _ _, ZeV (fun u hu x => by simp [Value.cells] at hu; rcases hu with rfl | rfl <;> simp) (by decide) _⟩)
 clear HO1
 go_wp2_with fail
 go_loopw [11] (fun ir wr => ∃ k : Nat, k ≤ n ∧ ir = .int .i64 (k : Int) ∧ (0 < n → ∃ cur, Bx wr w.heap.size cur 63 ∧ RowE cur 3 (n * 3) k (quE f g d) ∧ NoB cur) ∧ Rd wr br (qusF f g d k (n - k) ++ l) ∧ w.grownBy wr (some br)) (fun i _ => n - (intOf i).toNat)
 case atStart => exact ⟨0, Nat.zero_le _, rfl, fun h => by obtain ⟨cur, h1, h2, h3⟩ := HBL.out h; exact ⟨cur, h1, ⟨h2, fun i hi => absurd hi (Nat.not_lt_zero _)⟩, h3⟩, HR1.out, HG1.out⟩
 case round =>
  obtain ⟨k, hk, rfl, hrow, hrd, hg⟩ := hrel
  have HRW := η hrow; have HRD := η hrd; have HG := η hg; clear hrow hrd hg
  by_cases hlt : k < n
  ·have HRD2 := η (show Rd wr br (quB (f k) (g k) (d k) ++ (qusF f g d (k + 1) (n - (k + 1)) ++ l)) from by have := HRD.out; rw [Zh5 f g d hlt, List.append_assoc] at this; exact this)
   obtain ⟨cur, hbx, hre, hnb⟩ := HRW.out (by omega)
   have HBX := η hbx; have HRE := η hre; have HNB := η hnb; clear hbx hre hnb HRD HRW HBL HR1 HG1
   have HNE := η (show w.heap.size ≠ br from by have := HLT.out; omega)
   have HNN := HN.out
   have hms := η (show n - (intOf (.int .i64 ((k : Int) + 1))).toNat < n - (intOf (.int .i64 (k : Int))).toNat from by simp [intOf]; omega)
   have w1_ : wrap64 ((k : Int) + 1) = (k : Int) + 1 := by rw [← IntWalk.i64_left, IntKind.wrap_i64]; omega
   have w2_ : IntKind.i64.wrap ((k : Int) + 1) = (k : Int) + 1 := by rw [IntKind.wrap_i64]; omega
   have HNN2 := η HNN; clear HNN
   go_wp2_with fail
   refine (Zfw br (f k) (g k) (d k) (HI.out k hlt).1 (HI.out k hlt).2.1 (HI.out k hlt).2.2 _ _ HRD2.out).mono ?_
   rintro e w2 ⟨rfl, h2, g2⟩
   have HR2 := η h2; have HB2 := η (JD HBX.out HNE.out g2); have HG2 := η (HG.out.trans g2); clear h2 g2 HBX HG HRD2
   obtain ⟨v0, hv0⟩ := HRE.out.some (i := k * 3) (by omega)
   obtain ⟨v1, hv1⟩ := HRE.out.some (i := k * 3 + 1) (by omega)
   obtain ⟨v2, hv2⟩ := HRE.out.some (i := k * 3 + 2) (by omega)
   have c0 := HB2.out.cell (k * 3) (v := v0) hv0
   have c1 := HB2.out.cell (k * 3 + 1) (v := v1) hv1
   have c2 := HB2.out.cell (k * 3 + 2) (v := v2) hv2
   have z0 := HB2.out.free (k * 3)
   have z1 := HB2.out.free (k * 3 + 1)
   have z2 := HB2.out.free (k * 3 + 2)
   clear hv0 hv1 hv2
   go_wp2_with fail
   clear c0 c1 c2 z0 z1 z2
   have HB3 := η (show Bx (((w2.setCell ⟨w.heap.size, k * 3, none⟩ (.int .i64 (f k))).setCell ⟨w.heap.size, k * 3 + 1, none⟩ (.int .i64 (g k))).setCell ⟨w.heap.size, k * 3 + 2, none⟩ (.int .u64 (d k))) w.heap.size (setRow cur (k * 3) [.int .i64 (f k), .int .i64 (g k), .int .u64 (d k)]) 63 from ((HB2.out.set (k * 3) _).set (k * 3 + 1) _).set (k * 3 + 2) _)
   have HRE3 := η (HRE.out.snoc (by omega) [.int .i64 (f k), .int .i64 (g k), .int .u64 (d k)] rfl (fun j hj => by match j, hj with | 0, _ => rfl | 1, _ => rfl | 2, _ => rfl))
   have HG3 := η (Zaj (i := k * 3 + 2) (v := .int .u64 (d k)) (Zaj (i := k * 3 + 1) (v := .int .i64 (g k)) (Zaj (i := k * 3) (v := .int .i64 (f k)) HG2.out (Nat.le_refl w.heap.size)) (Nat.le_refl w.heap.size)) (Nat.le_refl w.heap.size))
   have HR3 := η (show Rd (((w2.setCell ⟨w.heap.size, k * 3, none⟩ (.int .i64 (f k))).setCell ⟨w.heap.size, k * 3 + 1, none⟩ (.int .i64 (g k))).setCell ⟨w.heap.size, k * 3 + 2, none⟩ (.int .u64 (d k))) br (qusF f g d (k + 1) (n - (k + 1)) ++ l) from by
    exact Rd.setBox (Rd.setBox (Rd.setBox HR2.out HB2.out HNB.out HNE.out.symm) (HB2.out.set (k * 3) _) (ZbB HNB.out (by simp) _) HNE.out.symm) ((HB2.out.set (k * 3) _).set (k * 3 + 1) _) (ZbB (ZbB HNB.out (by simp) _) (by simp) _) HNE.out.symm)
   have HNB3 := η (ZbN [.int .i64 (f k), .int .i64 (g k), .int .u64 (d k)] (k * 3) HNB.out (by simp))
   clear HB2 HR2 HG2 HRE
   go_roundw
   case rel => exact ⟨k + 1, hlt, by go_num, fun _ => ⟨_, HB3.out, HRE3.out, HNB3.out⟩, HR3.out, HG3.out⟩
   case measure => exact hms.out
  ·obtain rfl : k = n := by omega
   have HRD2 := η (show Rd wr br l from by have := HRD.out; rw [Nat.sub_self] at this; exact this)
   go_wp2_with fail
   go_ret
   refine ⟨⟨_, rfl, Nat.le_refl _, ?_, fun h0 => by obtain ⟨cur, h1, _⟩ := HRW.out h0; exact ⟨cur, h1⟩⟩, HRD2.out, HG.out⟩
   by_cases h0 : 0 < k
   ·obtain ⟨cur, h1, h2, _⟩ := HRW.out h0
    exact Zjt h1 h2 (by have := HN.out; unfold maxLen; omega) HI.out
   ·exact ⟨Nat.le_refl _, by have := HN.out; unfold maxLen; omega, HI.out, fun h => absurd h h0⟩
theorem Qus.heq {w w' : World} {b n c : Nat} {f g d : Nat → Int} (h : Qus w (Option.some ⟨b, 0, none⟩) n c f g d) (he : w'.heap[b]? = w.heap[b]?) : Qus w' (Option.some ⟨b, 0, none⟩) n c f g d :=
 ⟨h.cap, h.max, h.isi, fun h0 => by
  obtain ⟨b', o, e, hlt, hc⟩ := h.at_ h0
  obtain ⟨rfl, rfl⟩ : b = b' ∧ 0 = o := by simpa using e
  have hl : b < w'.heap.size := by
   rcases Nat.lt_or_ge b w'.heap.size with h1 | h1
   ·exact h1
   ·rw [Array.getElem?_eq_none h1, Array.getElem?_eq_getElem hlt] at he; cases he
  refine ⟨b, 0, rfl, hl, fun i hi => ?_⟩
  have hce : ∀ j, w'.cell? ⟨b, j, none⟩ = w.cell? ⟨b, j, none⟩ := fun j => World.cell?_of_block (w := w) (w' := w') (a := ⟨b, j, none⟩) he
  exact ⟨(hce _).trans (hc i hi).1, (hce _).trans (hc i hi).2.1, (hce _).trans (hc i hi).2.2⟩⟩
set_option maxRecDepth 100000 in
theorem ZeH (nq : Nat) (h1q : 1 ≤ nq) (h2q : nq ≤ 4096) (n : Nat) (d : Nat → Bool) (v : Nat → Int) (Q : Nat → Option Addr × Nat × Nat) (F G : Nat → Nat → Int) (ho : OkR n v Q) (hi : ∀ i, i < n → ∀ j, j < (Q i).2.1 → IsI (F i j) ∧ IsI (G i j)) (f g qd : Nat → Int) (hfg : ∀ i, i < nq → IsI (f i) ∧ IsI (g i) ∧ IsW (qd i)) (A : Option Addr) (N c : Nat) (w : World) (hT : TabF w)
  (hN : (hdrB 5 n d v nq ++ (rgsB Q F G n ++ qusB f g qd nq)).length = N) (hb : By w A c (hdrB 5 n d v nq ++ (rgsB Q F G n ++ qusB f g qd nq))) :
  Calls Tryz.prog 54 #[.slice A N c] w fun e w' => (∃ (g1 hc r rc pb qb : Nat) (B : Nat → Nat), e = .returned (.tuple #[.agg #[.int .i64 5, .int .i64 0, .slice (some ⟨g1, 0, none⟩) n hc, .int .i64 (nq : Int), .slice (some ⟨r, 0, none⟩) n rc, .slice (some ⟨pb, 0, none⟩) 0 0, .slice (some ⟨qb, 0, none⟩) nq nq], .int .i64 0]) ∧
   Rgs w' (some ⟨g1, 0, none⟩) n hc d v Q0 ∧ Rgs w' (some ⟨r, 0, none⟩) n rc d v (putQ B fun i => (Q i).2.1) ∧ RgP w' n (putQ B fun i => (Q i).2.1) F G ∧ Qus w' (some ⟨qb, 0, none⟩) nq nq f g qd) ∧ Below w.heap.size w w' := by
 obtain ⟨i0, hi0, hz0, hz1, hz2⟩ := info_parts ZeY
 have HOP := η (show OpP 5 (nq : Int) from .inr ⟨rfl, by omega, by omega⟩)
 have HO := η ho; have HI := η hi; have HFG := η hfg; have HT := η hT; have HN := η hN; have HBY := η hb
 have h1 := ho.pos
 have h2 := ho.le
 have hmx := hb.cap; have hm2 := hb.max
 rw [hN] at hmx
 unfold maxLen at hm2
 have HLR := η (show ((rgsB Q F G n ++ qusB f g qd nq).length : Int) = payR 5 nq (sumZ v n) from by rw [List.length_append, Zb9]; have := ZcV F G ho.num n ν; unfold payR; simp; omega)
 have HLH := η (show (hdrB 5 n d v nq).length = n + 4 from by simp [hdrB, ptsN, Jn])
 have HLN := η (show N = n + 4 + (rgsB Q F G n ++ qusB f g qd nq).length ∧ 16 ≤ (rgsB Q F G n ++ qusB f g qd nq).length from ⟨by rw [← hN, List.length_append, HLH.out], by rw [List.length_append, Zb9]; omega⟩)
 obtain ⟨b, off, rfl, -, -⟩ := hb.at_ (by simp [hdrB])
 clear ho hi hfg hT hN hb
 have hn2 : 4 + n < N := by have := HLN.out; omega
 go_enter Tryz.func54, Tryz.ntmps54
 go_wp2_with fail
 have HZ := η (Bx.new w #[.int .i64 0, .int .i64 0, .slice none 0 0, .int .i64 0, .slice none 0 0, .slice none 0 0, .slice none 0 0] 99)
 have HBY1 := η (HBY.out.alloc (.cells #[.int .i64 0, .int .i64 0, .slice none 0 0, .int .i64 0, .slice none 0 0, .slice none 0 0, .slice none 0 0] 99)); have HT1 := η (HT.out.alloc (.cells #[.int .i64 0, .int .i64 0, .slice none 0 0, .int .i64 0, .slice none 0 0, .slice none 0 0, .slice none 0 0] 99))
 have HB1 := η (show Below w.heap.size w (w.alloc (.cells #[.int .i64 0, .int .i64 0, .slice none 0 0, .int .i64 0, .slice none 0 0, .slice none 0 0, .slice none 0 0] 99)) from J8 J0)
 generalize w.alloc (.cells #[.int .i64 0, .int .i64 0, .slice none 0 0, .int .i64 0, .slice none 0 0, .slice none 0 0, .slice none 0 0] 99) = w1 at *
 clear HBY HT
 refine (ZcU 5 nq HOP.out n d v HO.out.toOkK _ HLR.out _ N c _ HT1.out HN.out HBY1.out).mono ?_
 rintro e w2 ⟨rfl, B⟩
 have HBY2 := η (HBY1.out.below B ν); have HZ2 := η (HZ.out.below B ν); have HB2 := η (HB1.out.trans (B.mono HB1.out.size)); clear B HBY1 HT1 HZ HB1
 go_wp2_with fail
 refine (ZaV 5 nq HOP.out n d v HO.out.toOkK _ _ N c _ HN.out HBY2.out).mono ?_
 rintro e w3 ⟨⟨g1, hc, rfl, hg, hrg⟩, B⟩
 have HRG := η hrg; have HBY3 := η (HBY2.out.below B ν); have HZ3 := η (HZ2.out.below B ν); have HB3 := η (HB2.out.trans (B.mono HB2.out.size)); have HG1 := η (show g1 ≠ w.heap.size from by have := HZ2.out.lt; omega); clear B HBY2 HZ2 HB2 hg hrg
 rw [show hlR 5 n = 4 + (n : Int) from by simp [hlR]]
 have t2 : (4 + (n : Int)).toNat = 4 + n := by omega
 have i2 : 0 ≤ 4 + (n : Int) := by omega
 have j2 : 4 + (n : Int) ≤ N := by omega
 have k2 : ¬ (c = 4 + n) := by omega
 have k3 : 4 + n ≤ N := by omega
 have k4 : N ≤ c := by omega
 go_wp2_with fail
 clear t2 i2 j2 k2 k3 k4
 have HLZ := η (show w.heap.size < w3.heap.size from HZ3.out.lt)
 have HR := η (show Rd (((w3.alloc (.cells #[.int .i64 5, .int .i64 0, .slice (some ⟨g1, 0, none⟩) n hc, .int .i64 (nq : Int)] 28)).alloc (.cells #[.int .i64 5, .int .i64 0, .slice (some ⟨g1, 0, none⟩) n hc, .int .i64 (nq : Int), .slice none 0 0, .slice none 0 0, .slice none 0 0] 99)).alloc (.cells #[.slice (some ⟨b, off + (4 + n), none⟩) (N - (4 + n)) (c - (4 + n))] 131)) (w3.heap.size + 1 + 1) (rgsB Q F G n ++ qusB f g qd nq) from by
  have hbl := HBY3.out
  obtain ⟨b', o', e', hlt', -⟩ := hbl.at_ (by simp [hdrB])
  obtain ⟨rfl, rfl⟩ : b = b' ∧ off = o' := by simpa using e'
  have h1 := hbl.drop
  rw [HLH.out] at h1
  refine ⟨some ⟨b, off + (n + 4), none⟩, c - (n + 4), ?_, ((h1.alloc _).alloc _).alloc _, fun a ha => by cases ha; show b < w3.heap.size + 1 + 1; omega⟩
  rw [show (rgsB Q F G n ++ qusB f g qd nq).length = N - (4 + n) from by have := HLN.out; omega, Nat.add_comm n 4]; exact Jb (by simp))
 have HH := η (show Bx (((w3.alloc (.cells #[.int .i64 5, .int .i64 0, .slice (some ⟨g1, 0, none⟩) n hc, .int .i64 (nq : Int)] 28)).alloc (.cells #[.int .i64 5, .int .i64 0, .slice (some ⟨g1, 0, none⟩) n hc, .int .i64 (nq : Int), .slice none 0 0, .slice none 0 0, .slice none 0 0] 99)).alloc (.cells #[.slice (some ⟨b, off + (4 + n), none⟩) (N - (4 + n)) (c - (4 + n))] 131)) w3.heap.size #[.int .i64 5, .int .i64 0, .slice (some ⟨g1, 0, none⟩) n hc, .int .i64 (nq : Int)] 28 from ((Bx.new _ _ _).alloc _).alloc _)
 have HQ := η (show Bx (((w3.alloc (.cells #[.int .i64 5, .int .i64 0, .slice (some ⟨g1, 0, none⟩) n hc, .int .i64 (nq : Int)] 28)).alloc (.cells #[.int .i64 5, .int .i64 0, .slice (some ⟨g1, 0, none⟩) n hc, .int .i64 (nq : Int), .slice none 0 0, .slice none 0 0, .slice none 0 0] 99)).alloc (.cells #[.slice (some ⟨b, off + (4 + n), none⟩) (N - (4 + n)) (c - (4 + n))] 131)) (w3.heap.size + 1) #[.int .i64 5, .int .i64 0, .slice (some ⟨g1, 0, none⟩) n hc, .int .i64 (nq : Int), .slice none 0 0, .slice none 0 0, .slice none 0 0] 99 from (Jb (by simp)).alloc _)
 have HZ6 := η (show Bx (((w3.alloc (.cells #[.int .i64 5, .int .i64 0, .slice (some ⟨g1, 0, none⟩) n hc, .int .i64 (nq : Int)] 28)).alloc (.cells #[.int .i64 5, .int .i64 0, .slice (some ⟨g1, 0, none⟩) n hc, .int .i64 (nq : Int), .slice none 0 0, .slice none 0 0, .slice none 0 0] 99)).alloc (.cells #[.slice (some ⟨b, off + (4 + n), none⟩) (N - (4 + n)) (c - (4 + n))] 131)) w.heap.size #[.int .i64 0, .int .i64 0, .slice none 0 0, .int .i64 0, .slice none 0 0, .slice none 0 0, .slice none 0 0] 99 from ((HZ3.out.alloc _).alloc _).alloc _)
 have HB6 := η (show Below w3.heap.size w3 (((w3.alloc (.cells #[.int .i64 5, .int .i64 0, .slice (some ⟨g1, 0, none⟩) n hc, .int .i64 (nq : Int)] 28)).alloc (.cells #[.int .i64 5, .int .i64 0, .slice (some ⟨g1, 0, none⟩) n hc, .int .i64 (nq : Int), .slice none 0 0, .slice none 0 0, .slice none 0 0] 99)).alloc (.cells #[.slice (some ⟨b, off + (4 + n), none⟩) (N - (4 + n)) (c - (4 + n))] 131)) from J8 (J8 (J8 J0)))
 have HS6 := η (show (((w3.alloc (.cells #[.int .i64 5, .int .i64 0, .slice (some ⟨g1, 0, none⟩) n hc, .int .i64 (nq : Int)] 28)).alloc (.cells #[.int .i64 5, .int .i64 0, .slice (some ⟨g1, 0, none⟩) n hc, .int .i64 (nq : Int), .slice none 0 0, .slice none 0 0, .slice none 0 0] 99)).alloc (.cells #[.slice (some ⟨b, off + (4 + n), none⟩) (N - (4 + n)) (c - (4 + n))] 131)).heap.size = w3.heap.size + 1 + 1 + 1 from by simp)
 generalize (((w3.alloc (.cells #[.int .i64 5, .int .i64 0, .slice (some ⟨g1, 0, none⟩) n hc, .int .i64 (nq : Int)] 28)).alloc (.cells #[.int .i64 5, .int .i64 0, .slice (some ⟨g1, 0, none⟩) n hc, .int .i64 (nq : Int), .slice none 0 0, .slice none 0 0, .slice none 0 0] 99)).alloc (.cells #[.slice (some ⟨b, off + (4 + n), none⟩) (N - (4 + n)) (c - (4 + n))] 131)) = w6 at *
 clear HBY3 HZ3
 obtain ⟨hb, hhb⟩ : ∃ hb, hb = w3.heap.size := ⟨_, rfl⟩
 rw [← hhb] at HLZ HR HH HQ HB6 HS6 ⊢
 have HHB := η hhb; clear hhb
 have HGC := η (show g1 < hb ∧ ∀ i, i < n → w3.cell? ⟨g1, i * 3, none⟩ = some (.bool (d i)) ∧ w3.cell? ⟨g1, i * 3 + 1, none⟩ = some (.int .i64 (v i)) ∧ w3.cell? ⟨g1, i * 3 + 2, none⟩ = some (.slice none 0 0) from by
  obtain ⟨b', o', e', hlt', hc'⟩ := HRG.out.at_ (by omega)
  obtain ⟨rfl, rfl⟩ : g1 = b' ∧ 0 = o' := by simpa using e'
  rw [HHB.out]
  refine ⟨hlt', fun i hi => ?_⟩
  have := hc' i hi
  simpa [Q0] using this)
 have hhc := HRG.out.cap; have hhm := HRG.out.max
 unfold maxLen at hhm
 go_loopw [36] (fun ir wr => ∃ (m : Nat) (xr : Value) (B : Nat → Nat), m ≤ n ∧ ir = .int .i64 (m : Int) ∧ Rd wr (hb + 1 + 1) (rgsR Q F G m (n - m) ++ qusB f g qd nq) ∧ Bx wr (hb + 1) #[.int .i64 5, .int .i64 0, .slice (some ⟨g1, 0, none⟩) n hc, .int .i64 (nq : Int), xr, .slice none 0 0, .slice none 0 0] 99 ∧ OwR wr (hb + 1 + 1 + 1) xr m d v (putQ B fun i => (Q i).2.1) ∧ (∀ i, i < m → PtT wr (B i) (Q i).2.1 (F i) (G i)) ∧ Bx wr w.heap.size #[.int .i64 0, .int .i64 0, .slice none 0 0, .int .i64 0, .slice none 0 0, .slice none 0 0, .slice none 0 0] 99 ∧ Bx wr hb #[.int .i64 5, .int .i64 0, .slice (some ⟨g1, 0, none⟩) n hc, .int .i64 (nq : Int)] 28 ∧ Below hb w3 wr) (fun i _ => n - (intOf i).toNat)
 case atStart => exact ⟨0, .slice none 0 0, fun _ => 0, by omega, rfl, by have := HR.out; rw [ZiQ] at this; exact this, HQ.out, OwR.nil _ _ _ _ _, fun i hi => absurd hi (by omega), HZ6.out, HH.out, HB6.out⟩
 case round =>
  obtain ⟨m, xr, B, hm, rfl, hrd, hqx, how, hpt, hzx, hhx, hb_⟩ := hrel
  have HRD := η hrd; have HQX := η hqx; have HOW := η how; have HPT := η hpt; have HZX := η hzx; have HHX := η hhx; have HBX := η hb_
  clear hrd hqx how hpt hzx hhx hb_
  by_cases hlt : m < n
  ·have hgc := HGC.out.2 m hlt
   have hbe : ∀ i, wr.cell? ⟨g1, i, none⟩ = w3.cell? ⟨g1, i, none⟩ := fun i => HBX.out.cell (p := ⟨g1, i, none⟩) HGC.out.1
   have p0 := (hbe _).trans hgc.1
   have p1 := (hbe _).trans hgc.2.1
   have p2 := (hbe _).trans hgc.2.2
   clear hgc hbe
   have hms := η (show n - (intOf (.int .i64 ((m : Int) + 1))).toNat < n - (intOf (.int .i64 (m : Int))).toNat from by simp [intOf]; omega)
   have HQN := η (show (Q m).2.1 ≤ 10000 ∧ 0 < (Q m).2.1 from by have := HO.out.num m hlt; have := Zaw (v m); have := HO.out.toOkK.range hlt; omega)
   go_wp2_with fail
   clear p0 p1 p2
   obtain ⟨xa, xk, xc, rfl⟩ : ∃ a k c, xr = .slice a k c := by
    rcases HOW.out.2 with ⟨e, _⟩ | ⟨g', c', _, e, _⟩
    ·exact ⟨_, _, _, e⟩
    ·exact ⟨_, _, _, e⟩
   have HLT := η HOW.out.lt
   have HGV := η (show hb + 1 + 1 < wr.heap.size from HRD.out.lt)
   have HW3 := η (show hb ≤ wr.heap.size from by have := HGV.out; omega)
   have HXV := η (Bx.new wr #[.bool (d m), .int .i64 (v m), .slice none 0 0] 48)
   have HRD4 := η (HRD.out.alloc (.cells #[.bool (d m), .int .i64 (v m), .slice none 0 0] 48)); have HQX4 := η (HQX.out.alloc (.cells #[.bool (d m), .int .i64 (v m), .slice none 0 0] 48)); have HOW4 := η (HOW.out.alloc (.cells #[.bool (d m), .int .i64 (v m), .slice none 0 0] 48)); have HPT4 := η (fun i hi => (HPT.out i hi).alloc (.cells #[.bool (d m), .int .i64 (v m), .slice none 0 0] 48)); have HZX4 := η (HZX.out.alloc (.cells #[.bool (d m), .int .i64 (v m), .slice none 0 0] 48)); have HHX4 := η (HHX.out.alloc (.cells #[.bool (d m), .int .i64 (v m), .slice none 0 0] 48)); have HBX4 := η (HBX.out.alloc HW3.out (.cells #[.bool (d m), .int .i64 (v m), .slice none 0 0] 48))
   clear HRD HQX HOW HPT HZX HHX HBX
   obtain ⟨gv, hgv⟩ : ∃ gv, gv = wr.heap.size := ⟨_, rfl⟩
   rw [← hgv] at HLT HGV HW3 HXV ⊢
   generalize wr.alloc (.cells #[.bool (d m), .int .i64 (v m), .slice none 0 0] 48) = w4 at *
   clear hgv
   refine (JW (d m) (v m) none 0 0 _).mono ?_
   rintro e w5 ⟨rfl, B5⟩
   have HXV5 := η (HXV.out.below B5 ν); have HRD5 := η (HRD4.out.below B5 ν); have HQX5 := η (HQX4.out.below B5 ν); have HOW5 := η (HOW4.out.below B5 ν); have HPT5 := η (fun i hi => (HPT4.out i hi).below B5 ν); have HZX5 := η (HZX4.out.below B5 ν); have HHX5 := η (HHX4.out.below B5 ν); have HBX5 := η (HBX4.out.trans (B5.mono (Nat.le_trans HW3.out (by have := HXV.out.lt; omega))))
   clear B5 HXV HRD4 HQX4 HOW4 HPT4 HZX4 HHX4 HBX4
   rw [← HO.out.num m hlt]
   go_wp2_with fail
   refine (Zcj (hb + 1 + 1) (Q m).2.1 HQN.out.1 (F m) (G m) (HI.out m hlt) (rgsR Q F G (m + 1) (n - (m + 1)) ++ qusB f g qd nq) _ (by have := HRD5.out; rw [Zhi Q F G hlt, List.append_assoc] at this; exact this)).mono ?_
   rintro e w8 ⟨⟨B0, rfl, -, hP, hbx⟩, hR, g6⟩
   have HRD8 := η hR
   have HPN8 := η (show PtT w8 B0 (Q m).2.1 (F m) (G m) from ⟨hP, hbx HQN.out.2⟩)
   obtain ⟨A9, c9, hrb, -⟩ := HRD5.out
   have HXV8 := η (JD HXV5.out (by have := HGV.out; omega) g6); have HQX8 := η (JD HQX5.out (by omega) g6); have HOW8 := η (HOW5.out.gr hrb (by decide) g6); have HPT8 := η (fun i hi => (HPT5.out i hi).gr hrb (by decide) g6); have HZX8 := η (JD HZX5.out (by have := HLZ.out; omega) g6); have HHX8 := η (JD HHX5.out (by omega) g6); have HBX8 := η (ZaI HBX5.out (by omega) (Nat.le_trans HW3.out (by have := HXV5.out.lt; omega)) g6)
   clear hP hbx hR g6 hrb HXV5 HRD5 HQX5 HOW5 HPT5 HZX5 HHX5 HBX5
   have HS8 := η (show hb + 1 + 1 + 1 ≤ w8.heap.size from HRD8.out.lt)
   have c2 := HXV8.out.cell 2 (v := .slice none 0 0) rfl
   have z2 := HXV8.out.free 2
   have p0 := HXV8.out.cell 0 (v := .bool (d m)) rfl
   have p1 := HXV8.out.cell 1 (v := .int .i64 (v m)) rfl
   have q4 := HQX8.out.cell 4 (v := .slice xa xk xc) rfl
   have hn1 : ¬ (hb + 1 = gv) := by have := HGV.out; omega
   have hn2' : ¬ (gv = hb + 1) := by have := HGV.out; omega
   have OW := η (show OwR ((w8.setCell ⟨gv, 2, none⟩ (.slice (some ⟨B0, 0, none⟩) (Q m).2.1 (Q m).2.1)).alloc (.cells #[.bool (d m), .int .i64 (v m), (.slice (some ⟨B0, 0, none⟩) (Q m).2.1 (Q m).2.1)] 48)) (hb + 1 + 1 + 1) (.slice xa xk xc) m d v (putQ B fun i => (Q i).2.1) from (HOW8.out.setNe (fun g' hg' => by have := HLT.out g' hg'; omega)).alloc _)
   have HGL := η (show gv < w8.heap.size from HXV8.out.lt)
   go_wp2_with (at_builtin; refine wpList_append_own _ rfl _ _ 26 rfl (hb + 1 + 1 + 1) 48 i0 (.agg #[.bool false, .int .i64 0, .slice none 0 0]) 3 40 Tryz.underlying26 hi0 hz0 hz1 hz2 rfl (by decide) _ _ _ rfl OW.out ⟨w8.heap.size, 0, none⟩ 1 1 [.bool (d m), .int .i64 (v m), (.slice (some ⟨B0, 0, none⟩) (Q m).2.1 (Q m).2.1)] rfl rfl ?c1 ?c2 ?c3 ?c4 ?c5 ?_)
   case c1 => exact Zab (by simp) _ _ _ _
   case c2 => simp [Value.oneCell']
   case c3 => skip; unfold maxLen; omega
   case c4 => skip; omega
   case c5 => (have := HS8.out; simp; omega)
   intro v' w' hown2 hgrow _
   clear c2 z2 p0 p1 q4
   have HRD9 := η (((HRD8.out.setHi (i := 2) (v := (.slice (some ⟨B0, 0, none⟩) (Q m).2.1 (Q m).2.1)) HGV.out).alloc (.cells #[.bool (d m), .int .i64 (v m), (.slice (some ⟨B0, 0, none⟩) (Q m).2.1 (Q m).2.1)] 48)).row hgrow OW.out (by omega))
   have HQX9 := η (JV ((HQX8.out.other (a := ⟨gv, 2, none⟩) (.slice (some ⟨B0, 0, none⟩) (Q m).2.1 (Q m).2.1) hn1).alloc (.cells #[.bool (d m), .int .i64 (v m), (.slice (some ⟨B0, 0, none⟩) (Q m).2.1 (Q m).2.1)] 48)) (by decide) hgrow OW.out)
   have HZX9 := η (JV ((HZX8.out.other (a := ⟨gv, 2, none⟩) (.slice (some ⟨B0, 0, none⟩) (Q m).2.1 (Q m).2.1) (by have := HLZ.out; have := HGV.out; show w.heap.size ≠ gv; omega)).alloc (.cells #[.bool (d m), .int .i64 (v m), (.slice (some ⟨B0, 0, none⟩) (Q m).2.1 (Q m).2.1)] 48)) (by decide) hgrow OW.out)
   have HHX9 := η (JV ((HHX8.out.other (a := ⟨gv, 2, none⟩) (.slice (some ⟨B0, 0, none⟩) (Q m).2.1 (Q m).2.1) (by have := HGV.out; show hb ≠ gv; omega)).alloc (.cells #[.bool (d m), .int .i64 (v m), (.slice (some ⟨B0, 0, none⟩) (Q m).2.1 (Q m).2.1)] 48)) (by decide) hgrow OW.out)
   have HPT9 := η (fun i hi => (((HPT8.out i hi).set (i := 2) (v := (.slice (some ⟨B0, 0, none⟩) (Q m).2.1 (Q m).2.1)) HXV8.out (by decide)).alloc (.cells #[.bool (d m), .int .i64 (v m), (.slice (some ⟨B0, 0, none⟩) (Q m).2.1 (Q m).2.1)] 48)).row hgrow OW.out)
   have HPN9 := η (((HPN8.out.set (i := 2) (v := (.slice (some ⟨B0, 0, none⟩) (Q m).2.1 (Q m).2.1)) HXV8.out (by decide)).alloc (.cells #[.bool (d m), .int .i64 (v m), (.slice (some ⟨B0, 0, none⟩) (Q m).2.1 (Q m).2.1)] 48)).row hgrow OW.out)
   have HBX9 := η (ZaA ((HBX8.out.setCell (p := ⟨gv, 2, none⟩) (show hb ≤ gv from HW3.out) (.slice (some ⟨B0, 0, none⟩) (Q m).2.1 (Q m).2.1)).alloc (by have := HS8.out; simp; omega) (.cells #[.bool (d m), .int .i64 (v m), (.slice (some ⟨B0, 0, none⟩) (Q m).2.1 (Q m).2.1)] 48)) (by have := HS8.out; simp; omega) (by omega) hgrow OW.out)
   have hPQ : putQ (setB B m B0) (fun i => (Q i).2.1) m = (some ⟨B0, 0, none⟩, (Q m).2.1, (Q m).2.1) := by unfold putQ; rw [Zgd]
   rw [Zck (Q' := putQ (setB B m B0) fun i => (Q i).2.1) m (fun i hi => ZiR hi)] at hown2
   obtain ⟨g2, cap2, rfl, -, -⟩ := hown2.form (by omega)
   have HO9 := η (show OwR w' (hb + 1 + 1 + 1) (.slice (some ⟨g2, 0, none⟩) (m + 1) cap2) (m + 1) d v (putQ (setB B m B0) fun i => (Q i).2.1) from OwR.snoc (by rw [hPQ]; exact hown2) rfl)
   clear hown2 hgrow OW HRD8 HQX8 HOW8 HPT8 HPN8 HZX8 HHX8 HBX8 HXV8 hPQ
   have c4 := HQX9.out.cell 4 (v := .slice xa xk xc) rfl
   have z4 := HQX9.out.free 4
   go_wp2_with fail
   go_roundw
   case rel => exact ⟨m + 1, _, setB B m B0, hlt, by go_num, HRD9.out.setBox HQX9.out (by simp) (by omega), HQX9.out.set 4 _, HO9.out.setOther HQX9.out (by decide), fun i hi => by
     rcases (by omega : i < m ∨ i = m) with h | rfl
     ·rw [Zgc h]; exact (HPT9.out i h).set HQX9.out (by decide)
     ·rw [Zgd]; exact HPN9.out.set HQX9.out (by decide), HZX9.out.other (a := ⟨hb + 1, 4, none⟩) _ (by have := HLZ.out; show w.heap.size ≠ hb + 1; omega), HHX9.out.other (a := ⟨hb + 1, 4, none⟩) _ (by show hb ≠ hb + 1; omega), HBX9.out.setCell (p := ⟨hb + 1, 4, none⟩) (by show hb ≤ hb + 1; omega) _⟩
   case measure => exact hms.out
  ·obtain rfl : m = n := by omega
   have HIV := η (show ∀ i, i < m → IsI (v i) from fun i hi => by have := HO.out.toOkK.range hi; unfold IsI; omega)
   obtain ⟨r, rc, rfl, hrl, hrr, rcur, hrc⟩ := HOW.out.rgs (by omega) HIV.out
   have HRR := η hrr; have HRC := η hrc; have HRL := η hrl; clear hrr hrc hrl HOW
   have HRD2 := η (show Rd wr (hb + 1 + 1) (qusB f g qd nq ++ []) from by have := HRD.out; rw [Nat.sub_self] at this; simpa [rgsR] using this)
   have c0 := HHX.out.cell 0 (v := .int .i64 5) rfl; have c1 := HHX.out.cell 1 (v := .int .i64 0) rfl; have c2 := HHX.out.cell 2 (v := .slice (some ⟨g1, 0, none⟩) m hc) rfl; have c3 := HHX.out.cell 3 (v := .int .i64 (nq : Int)) rfl
   go_wp2_with fail
   clear c0 c1 c2 c3
   refine (Zc0 _ _ m hc _).mono ?_
   rintro e w5 ⟨rfl, B5⟩
   have HS3 := η (show hb ≤ wr.heap.size from by have := HRD2.out.lt; omega)
   have HRD5 := η (HRD2.out.below B5 ν); have HQX5 := η (HQX.out.below B5 ν); have HRR5 := η (HRR.out.below B5 ν); have HRC5 := η (HRC.out.below B5 ν); have HPT5 := η (fun i hi => (HPT.out i hi).below B5 ν); have HZX5 := η (HZX.out.below B5 ν); have HBX5 := η (HBX.out.trans (B5.mono HS3.out))
   clear B5 HRD HRD2 HQX HRR HRC HPT HZX HBX HHX
   go_wp2_with fail
   refine (Zcj (hb + 1 + 1) 0 (by decide) f g (fun i hi => absurd hi (Nat.not_lt_zero _)) (qusB f g qd nq ++ []) _ HRD5.out).mono ?_
   rintro e w8 ⟨⟨pb, rfl, -, -, -⟩, hR, g6⟩
   obtain ⟨A9, c9, hrb, -⟩ := HRD5.out
   have hs8 : hb + 1 + 1 < w8.heap.size := hR.lt
   have HRB8 := η hs8; have HRD8 := η hR
   have HQX8 := η (JD HQX5.out (by omega) g6); have HRC8 := η (JD HRC5.out (Zaa HRC5.out hrb (by decide)) g6); have HPT8 := η (fun i hi => (HPT5.out i hi).gr hrb (by decide) g6); have HZX8 := η (JD HZX5.out (by have := HLZ.out; omega) g6); have HBX8 := η (ZaI HBX5.out (by omega) (by have := HQX5.out.lt; omega) g6)
   clear hR g6 hrb HRD5 HQX5 HPT5 HZX5 HBX5 hs8
   have c5 := HQX8.out.cell 5 (v := .slice none 0 0) rfl
   have z5 := HQX8.out.free 5
   go_wp2_with fail
   clear c5 z5
   have HQ9 := η (HQX8.out.set 5 (.slice (some ⟨pb, 0, none⟩) 0 0)); have HPT9 := η (fun i hi => (HPT8.out i hi).set (i := 5) (v := .slice (some ⟨pb, 0, none⟩) 0 0) HQX8.out (by decide)); have HRC9 := η (HRC8.out.other (a := ⟨hb + 1, 5, none⟩) (.slice (some ⟨pb, 0, none⟩) 0 0) (Zaa HRC8.out HQX8.out (by decide))); have HZ9 := η (HZX8.out.other (a := ⟨hb + 1, 5, none⟩) (.slice (some ⟨pb, 0, none⟩) 0 0) (by have := HLZ.out; show w.heap.size ≠ hb + 1; omega)); have HB9 := η (HBX8.out.setCell (p := ⟨hb + 1, 5, none⟩) (by show hb ≤ hb + 1; omega) (.slice (some ⟨pb, 0, none⟩) 0 0))
   have HRD9 := η (HRD8.out.setBox (i := 5) (v := .slice (some ⟨pb, 0, none⟩) 0 0) HQX8.out (by simp) (by omega))
   have HS9 := η (show hb + 1 + 1 < (w8.setCell ⟨hb + 1, 5, none⟩ (.slice (some ⟨pb, 0, none⟩) 0 0)).heap.size from by have := HRB8.out; simp; omega)
   generalize w8.setCell ⟨hb + 1, 5, none⟩ (.slice (some ⟨pb, 0, none⟩) 0 0) = w9 at *
   clear HQX8 HPT8 HRC8 HZX8 HBX8 HRD8
   refine (ZhD (hb + 1 + 1) nq (by omega) f g qd HFG.out [] _ HRD9.out).mono ?_
   rintro e w10 ⟨⟨qb, rfl, hqb, hQ, -⟩, -, g10⟩
   obtain ⟨A9, c9, hrb, -⟩ := HRD9.out
   have HQB := η (show hb + 1 + 1 < qb from by have := HS9.out; omega); have HQU10 := η hQ
   have HQ10 := η (JD HQ9.out (by omega) g10); have HPT10 := η (fun i hi => (HPT9.out i hi).gr hrb (by decide) g10); have HRC10 := η (JD HRC9.out (Zaa HRC9.out hrb (by decide)) g10); have HZ10 := η (JD HZ9.out (by have := HLZ.out; omega) g10); have HB10 := η (ZaI HB9.out (by omega) (by have := HS9.out; omega) g10)
   clear hQ hqb hrb g10 HQ9 HPT9 HRC9 HZ9 HB9 HRD9
   have c6 := HQ10.out.cell 6 (v := .slice none 0 0) rfl
   have z6 := HQ10.out.free 6
   have HQ11 := η (HQ10.out.set 6 (.slice (some ⟨qb, 0, none⟩) nq nq)); have HZ11 := η (HZ10.out.other (a := ⟨hb + 1, 6, none⟩) (.slice (some ⟨qb, 0, none⟩) nq nq) (by have := HLZ.out; show w.heap.size ≠ hb + 1; omega)); have HPT11 := η (fun i hi => (HPT10.out i hi).set (i := 6) (v := (.slice (some ⟨qb, 0, none⟩) nq nq)) HQ10.out (by decide)); have HRC11 := η (HRC10.out.other (a := ⟨hb + 1, 6, none⟩) (.slice (some ⟨qb, 0, none⟩) nq nq) (Zaa HRC10.out HQ10.out (by decide))); have HB11 := η (HB10.out.setCell (p := ⟨hb + 1, 6, none⟩) (by show hb ≤ hb + 1; omega) (.slice (some ⟨qb, 0, none⟩) nq nq))
   have HQU11 := η (HQU10.out.heq (Za6 w10 (i := 6) (v := (.slice (some ⟨qb, 0, none⟩) nq nq)) (show qb ≠ hb + 1 from by have := HQB.out; omega)))
   have d0 := HQ11.out.cell 0 (v := .int .i64 5) rfl; have d1 := HQ11.out.cell 1 (v := .int .i64 0) rfl; have d2 := HQ11.out.cell 2 (v := .slice (some ⟨g1, 0, none⟩) m hc) rfl; have d3 := HQ11.out.cell 3 (v := .int .i64 (nq : Int)) rfl; have d4 := HQ11.out.cell 4 (v := .slice (some ⟨r, 0, none⟩) m rc) rfl; have d5 := HQ11.out.cell 5 (v := .slice (some ⟨pb, 0, none⟩) 0 0) rfl; have d6 := HQ11.out.cell 6 (v := .slice (some ⟨qb, 0, none⟩) nq nq) rfl
   have e0 := HZ11.out.cell 0 (v := .int .i64 0) rfl; have y0 := HZ11.out.free 0; have e1 := HZ11.out.cell 1 (v := .int .i64 0) rfl; have y1 := HZ11.out.free 1; have e2 := HZ11.out.cell 2 (v := .slice none 0 0) rfl; have y2 := HZ11.out.free 2; have e3 := HZ11.out.cell 3 (v := .int .i64 0) rfl; have y3 := HZ11.out.free 3; have e4 := HZ11.out.cell 4 (v := .slice none 0 0) rfl; have y4 := HZ11.out.free 4; have e5 := HZ11.out.cell 5 (v := .slice none 0 0) rfl; have y5 := HZ11.out.free 5; have e6 := HZ11.out.cell 6 (v := .slice none 0 0) rfl; have y6 := HZ11.out.free 6
   go_wp2_with fail
   clear c6 z6 d0 d1 d2 d3 d4 d5 d6 e0 y0 e1 y1 e2 y2 e3 y3 e4 y4 e5 y5 e6 y6 HQ11 HQ10 HQU10 HPT10 HRC10 HZ10 HB10
   generalize w10.setCell ⟨hb + 1, 6, none⟩ (.slice (some ⟨qb, 0, none⟩) nq nq) = w11 at *
   have HG12 := η (show Rgs (((((((w11.setCell ⟨w.heap.size, 0, none⟩ (.int .i64 5)).setCell ⟨w.heap.size, 1, none⟩ (.int .i64 0)).setCell ⟨w.heap.size, 2, none⟩ (.slice (some ⟨g1, 0, none⟩) m hc)).setCell ⟨w.heap.size, 3, none⟩ (.int .i64 (nq : Int))).setCell ⟨w.heap.size, 4, none⟩ (.slice (some ⟨r, 0, none⟩) m rc)).setCell ⟨w.heap.size, 5, none⟩ (.slice (some ⟨pb, 0, none⟩) 0 0)).setCell ⟨w.heap.size, 6, none⟩ (.slice (some ⟨qb, 0, none⟩) nq nq)) (some ⟨g1, 0, none⟩) m hc d v Q0 from (HRG.out.heq (HB11.out.block g1 HGC.out.1)).heq (Zbo _ HG1.out))
   have HRN := η (show r ≠ w.heap.size from by have := HRL.out; have := HLZ.out; omega)
   have HR12 := η (show Rgs (((((((w11.setCell ⟨w.heap.size, 0, none⟩ (.int .i64 5)).setCell ⟨w.heap.size, 1, none⟩ (.int .i64 0)).setCell ⟨w.heap.size, 2, none⟩ (.slice (some ⟨g1, 0, none⟩) m hc)).setCell ⟨w.heap.size, 3, none⟩ (.int .i64 (nq : Int))).setCell ⟨w.heap.size, 4, none⟩ (.slice (some ⟨r, 0, none⟩) m rc)).setCell ⟨w.heap.size, 5, none⟩ (.slice (some ⟨pb, 0, none⟩) 0 0)).setCell ⟨w.heap.size, 6, none⟩ (.slice (some ⟨qb, 0, none⟩) nq nq)) (some ⟨r, 0, none⟩) m rc d v (putQ B fun i => (Q i).2.1) from (HRR5.out.heq ((show w11.heap[r]? = _ from HRC11.out).trans (show _ = w5.heap[r]? from HRC5.out.symm))).heq (Zbo _ HRN.out))
   have HPT12 := η (show ∀ i, i < m → PtT (((((((w11.setCell ⟨w.heap.size, 0, none⟩ (.int .i64 5)).setCell ⟨w.heap.size, 1, none⟩ (.int .i64 0)).setCell ⟨w.heap.size, 2, none⟩ (.slice (some ⟨g1, 0, none⟩) m hc)).setCell ⟨w.heap.size, 3, none⟩ (.int .i64 (nq : Int))).setCell ⟨w.heap.size, 4, none⟩ (.slice (some ⟨r, 0, none⟩) m rc)).setCell ⟨w.heap.size, 5, none⟩ (.slice (some ⟨pb, 0, none⟩) 0 0)).setCell ⟨w.heap.size, 6, none⟩ (.slice (some ⟨qb, 0, none⟩) nq nq)) (B i) (Q i).2.1 (F i) (G i) from fun i hi => (HPT11.out i hi).heq (Zbo _ (by obtain ⟨_, hx⟩ := (HPT11.out i hi).box; exact Zaa hx HZ11.out (by decide))))
   have HQU12 := η (show Qus (((((((w11.setCell ⟨w.heap.size, 0, none⟩ (.int .i64 5)).setCell ⟨w.heap.size, 1, none⟩ (.int .i64 0)).setCell ⟨w.heap.size, 2, none⟩ (.slice (some ⟨g1, 0, none⟩) m hc)).setCell ⟨w.heap.size, 3, none⟩ (.int .i64 (nq : Int))).setCell ⟨w.heap.size, 4, none⟩ (.slice (some ⟨r, 0, none⟩) m rc)).setCell ⟨w.heap.size, 5, none⟩ (.slice (some ⟨pb, 0, none⟩) 0 0)).setCell ⟨w.heap.size, 6, none⟩ (.slice (some ⟨qb, 0, none⟩) nq nq)) (some ⟨qb, 0, none⟩) nq nq f g qd from HQU11.out.heq (Zbo _ (by have := HQB.out; have := HLZ.out; omega)))
   have HB12 := η (show Below w.heap.size w (((((((w11.setCell ⟨w.heap.size, 0, none⟩ (.int .i64 5)).setCell ⟨w.heap.size, 1, none⟩ (.int .i64 0)).setCell ⟨w.heap.size, 2, none⟩ (.slice (some ⟨g1, 0, none⟩) m hc)).setCell ⟨w.heap.size, 3, none⟩ (.int .i64 (nq : Int))).setCell ⟨w.heap.size, 4, none⟩ (.slice (some ⟨r, 0, none⟩) m rc)).setCell ⟨w.heap.size, 5, none⟩ (.slice (some ⟨pb, 0, none⟩) 0 0)).setCell ⟨w.heap.size, 6, none⟩ (.slice (some ⟨qb, 0, none⟩) nq nq)) from J9 ν (J9 ν (J9 ν (J9 ν (J9 ν (J9 ν (J9 ν (HB3.out.trans (HB11.out.mono (by have := HLZ.out; omega))))))))))
   have HZ12 := η (show Bx (((((((w11.setCell ⟨w.heap.size, 0, none⟩ (.int .i64 5)).setCell ⟨w.heap.size, 1, none⟩ (.int .i64 0)).setCell ⟨w.heap.size, 2, none⟩ (.slice (some ⟨g1, 0, none⟩) m hc)).setCell ⟨w.heap.size, 3, none⟩ (.int .i64 (nq : Int))).setCell ⟨w.heap.size, 4, none⟩ (.slice (some ⟨r, 0, none⟩) m rc)).setCell ⟨w.heap.size, 5, none⟩ (.slice (some ⟨pb, 0, none⟩) 0 0)).setCell ⟨w.heap.size, 6, none⟩ (.slice (some ⟨qb, 0, none⟩) nq nq)) w.heap.size #[.int .i64 5, .int .i64 0, .slice (some ⟨g1, 0, none⟩) m hc, .int .i64 (nq : Int), .slice (some ⟨r, 0, none⟩) m rc, .slice (some ⟨pb, 0, none⟩) 0 0, .slice (some ⟨qb, 0, none⟩) nq nq] 99 from ((((((HZ11.out.set 0 _).set 1 _).set 2 _).set 3 _).set 4 _).set 5 _).set 6 _)
   generalize (((((((w11.setCell ⟨w.heap.size, 0, none⟩ (.int .i64 5)).setCell ⟨w.heap.size, 1, none⟩ (.int .i64 0)).setCell ⟨w.heap.size, 2, none⟩ (.slice (some ⟨g1, 0, none⟩) m hc)).setCell ⟨w.heap.size, 3, none⟩ (.int .i64 (nq : Int))).setCell ⟨w.heap.size, 4, none⟩ (.slice (some ⟨r, 0, none⟩) m rc)).setCell ⟨w.heap.size, 5, none⟩ (.slice (some ⟨pb, 0, none⟩) 0 0)).setCell ⟨w.heap.size, 6, none⟩ (.slice (some ⟨qb, 0, none⟩) nq nq)) = w12 at *
   have q0 := HZ12.out.cell 0 (v := .int .i64 5) rfl; have q1 := HZ12.out.cell 1 (v := .int .i64 0) rfl; have q2 := HZ12.out.cell 2 (v := .slice (some ⟨g1, 0, none⟩) m hc) rfl; have q3 := HZ12.out.cell 3 (v := .int .i64 (nq : Int)) rfl; have q4 := HZ12.out.cell 4 (v := .slice (some ⟨r, 0, none⟩) m rc) rfl; have q5 := HZ12.out.cell 5 (v := .slice (some ⟨pb, 0, none⟩) 0 0) rfl; have q6 := HZ12.out.cell 6 (v := .slice (some ⟨qb, 0, none⟩) nq nq) rfl
   refine bodyPost_ret (v := .tuple #[.agg #[.int .i64 5, .int .i64 0, .slice (some ⟨g1, 0, none⟩) m hc, .int .i64 (nq : Int), .slice (some ⟨r, 0, none⟩) m rc, .slice (some ⟨pb, 0, none⟩) 0 0, .slice (some ⟨qb, 0, none⟩) nq nq], .int .i64 0]) (by simp [results, Tryz.results54, go_sem, q0, q1, q2, q3, q4, q5, q6]) rfl ⟨⟨g1, hc, r, rc, pb, _, B, rfl, HG12.out, HR12.out, ⟨fun i hi => (HPT12.out i hi).pts⟩, HQU12.out⟩, HB12.out⟩
theorem Qus.setFar {w : World} {B off n c k i : Nat} {x : Value} {f g d : Nat → Int} (a : Qus w (some ⟨B, off, none⟩) n c f g d) (hne : B ≠ k) : Qus (w.setCell ⟨k, i, none⟩ x) (some ⟨B, off, none⟩) n c f g d :=
 ⟨a.cap, a.max, a.isi, fun hn => by
  obtain ⟨b, o, e, hlt, hc⟩ := a.at_ hn
  obtain ⟨rfl, rfl⟩ : B = b ∧ off = o := by simpa using e
  refine ⟨B, off, rfl, by simpa using hlt, fun j hj => ⟨Jc (hc j hj).1 hne, Jc (hc j hj).2.1 hne, Jc (hc j hj).2.2 hne⟩⟩⟩
theorem ZjM {w : World} {B n c k : Nat} {f g d : Nat → Int} {x : Value} {t : TypeId} (a : Qus w (some ⟨B, 0, none⟩) n c f g d) (hn : 0 < n) (hb : Bx w k #[x] t) : B ≠ k := by
 rintro rfl
 obtain ⟨b, o, e, _, hc⟩ := a.at_ hn
 obtain ⟨rfl, rfl⟩ : B = b ∧ 0 = o := by simpa using e
 have h1 := (hc 0 hn).2.1
 unfold Bx at hb
 simp [World.cell?, hb] at h1
theorem Zbw (d : Nat → Bool) (v : Nat → Int) (Q : Nat → Option Addr × Nat × Nat) (F G : Nat → Nat → Int) (n : Nat) (f g qd : Nat → Int) : ∀ m, Jy (Zag false d v Q F G n f g qd) m = 0
 | 0 => rfl
 | k + 1 => by rw [Jy, Zbw d v Q F G n f g qd k]; simp [Zag, keyQ]
set_option maxRecDepth 100000 in
theorem ZeI (nq : Nat) (h1q : 1 ≤ nq) (h2q : nq ≤ 100) (n : Nat) (d : Nat → Bool) (v : Nat → Int) (Q : Nat → Option Addr × Nat × Nat) (F G : Nat → Nat → Int) (ho : OkR n v Q) (hi : ∀ i, i < n → ∀ j, j < (Q i).2.1 → IsI (F i j) ∧ IsI (G i j)) (f g qd : Nat → Int) (hfg : ∀ i, i < nq → IsI (f i) ∧ IsI (g i) ∧ IsW (qd i)) (V : Bool) (K : Nat → Int) (X : Int) (N1 : Nat) (hV : allB (vR v Q F G) n = V) (hK : Zag V d v Q F G n f g qd = K) (hX : b2i V = X) (hN1 : Jy K nq = N1) (A : Option Addr) (N c : Nat) (w : World) (hT : TabM w) (hF : TabF w) (hN : (hdrB 5 n d v nq ++ (rgsB Q F G n ++ qusB f g qd nq)).length = N) (hb : By w A c (hdrB 5 n d v nq ++ (rgsB Q F G n ++ qusB f g qd nq))) :
  Calls Tryz.prog 30 #[.pointer none, .slice A N c] w fun e w' => (∃ A' L c' h', e = .returned (.slice A' L c') ∧ IsSort K nq h' ∧ ([0, X, (N1 : Int) % 256, (N1 : Int) / 256] ++ recB h' nq).length = L ∧ By w' A' c' ([0, X, (N1 : Int) % 256, (N1 : Int) / 256] ++ recB h' nq)) ∧ Below w.heap.size w w' := by
 have HB0 := η (Below.refl w.heap.size w); have FT := η hT; have FF := η hF; have FB := η hb; have HI := η hi; have HFG := η hfg; have HN := η hN; have HO := η ho; have HT0 := FT; have hpos := ho.pos; have HPOS := η hpos
 have HV := η hV; have HK := η hK; have HX := η hX; have HN1 := η hN1
 have HXR := η (show X = 0 ∨ X = 1 from by rw [← hX]; cases V <;> simp [b2i])
 have HNL := η (show N1 ≤ nq from by rw [← hN1]; exact Zas K nq)
 have HX0 := η (show X = 0 → N1 = 0 from by intro h; rw [← hN1, ← hK]; have hVf : V = false := (by rw [← hX] at h; cases V <;> simp [b2i] at h ⊢); subst hVf; exact Zbw d v Q F G n f g qd nq)
 clear hT hF hb hi hfg hN ho hpos hV hK hX hN1
 have hmf : ∀ (fn : Fn) (first cap : Array Value) (w : World), (Instr.makeFunc fn first cap).run Tryz.prog w = .ok (.func fn first cap) w := fun _ _ _ _ => rfl
 go_enter_defers Tryz.func30, Tryz.ntmps30
 go_wp2_with fail
 have B : Below w.heap.size w ((w.alloc (.cells #[.slice none 0 0] 24)).alloc (.cells #[.int .i64 0] 67)) := ((HB0.out.alloc HB0.out.size _).alloc (HB0.out.alloc HB0.out.size _).size _)
 have C : Below w.heap.size w ((w.alloc (.cells #[.slice none 0 0] 24)).alloc (.cells #[.int .i64 0] 67)) := (((Below.refl w.heap.size w).alloc ν _).alloc (by simp; try omega) _)
 have X0 : Bx ((w.alloc (.cells #[.slice none 0 0] 24)).alloc (.cells #[.int .i64 0] 67)) (w.heap.size) #[.slice none 0 0] 24 := by simpa using ((Bx.new w #[.slice none 0 0] 24).alloc _)
 have X1 : Bx ((w.alloc (.cells #[.slice none 0 0] 24)).alloc (.cells #[.int .i64 0] 67)) (w.heap.size + 1) #[.int .i64 0] 67 := by simpa using (Bx.new (w.alloc (.cells #[.slice none 0 0] 24)) #[.int .i64 0] 67)
 have FT_1 := η (FT.out.below C ν)
 have FF_1 := η (FF.out.below C ν)
 have FB_1 := η (FB.out.below C ν)
 have HB1 := η B
 have FO_1 := η X0
 have FE_1 := η X1
 clear B C X0 X1 HB0 FT FF FB
 generalize ((w.alloc (.cells #[.slice none 0 0] 24)).alloc (.cells #[.int .i64 0] 67)) = w1 at *
 skip
 refine (ZeH nq h1q (by omega) n d v Q F G HO.out HI.out f g qd HFG.out A N c _ FF_1.out HN.out FB_1.out).mono ?_
 rintro e w2 ⟨⟨g1, hc, r, rc, pb, qb, B_, rfl, hG, hR, hP4, hX⟩, B⟩
 have HB2 := η (HB1.out.trans (B.mono HB1.out.size))
 have FT_2 := η (FT_1.out.below B ν)
 have FF_2 := η (FF_1.out.below B ν)
 have FB_2 := η (FB_1.out.below B ν)
 have FO_2 := η (FO_1.out.below B ν)
 have FE_2 := η (FE_1.out.below B ν)
 have FH_2 := η hG
 have FG_2 := η hR
 have FP_2 := η hP4
 have FX_2 := η hX
 clear B hG hR hP4 hX HB1 FT_1 FF_1 FB_1 FO_1 FE_1
 have e0 := FE_2.out.cell 0 (v := .int .i64 0) rfl; have ez := FE_2.out.free 0
 have d0 := (FE_2.out.alloc (.cells #[.int .i64 5, .int .i64 0, .slice (some ⟨g1, 0, none⟩) n hc, .int .i64 (nq : Int), .slice (some ⟨r, 0, none⟩) n rc, .slice (some ⟨pb, 0, none⟩) 0 0, .slice (some ⟨qb, 0, none⟩) nq nq] 99)).cell 0 (v := .int .i64 0) rfl; have dz := (FE_2.out.alloc (.cells #[.int .i64 5, .int .i64 0, .slice (some ⟨g1, 0, none⟩) n hc, .int .i64 (nq : Int), .slice (some ⟨r, 0, none⟩) n rc, .slice (some ⟨pb, 0, none⟩) 0 0, .slice (some ⟨qb, 0, none⟩) nq nq] 99)).free 0
 go_upto_region 4 with (fail)
 clear e0 ez d0 dz
 have HR3 := η (show Bx ((w2.alloc (.cells #[.int .i64 5, .int .i64 0, .slice (some ⟨g1, 0, none⟩) n hc, .int .i64 (nq : Int), .slice (some ⟨r, 0, none⟩) n rc, .slice (some ⟨pb, 0, none⟩) 0 0, .slice (some ⟨qb, 0, none⟩) nq nq] 99)).setCell ⟨w.heap.size + 1, 0, none⟩ (.int .i64 0)) w2.heap.size #[.int .i64 5, .int .i64 0, .slice (some ⟨g1, 0, none⟩) n hc, .int .i64 (nq : Int), .slice (some ⟨r, 0, none⟩) n rc, .slice (some ⟨pb, 0, none⟩) 0 0, .slice (some ⟨qb, 0, none⟩) nq nq] 99 from (Bx.new _ _ _).other _ (by have := FE_2.out.lt; show w2.heap.size ≠ w.heap.size + 1; omega))
 have HE3 := η (show Bx ((w2.alloc (.cells #[.int .i64 5, .int .i64 0, .slice (some ⟨g1, 0, none⟩) n hc, .int .i64 (nq : Int), .slice (some ⟨r, 0, none⟩) n rc, .slice (some ⟨pb, 0, none⟩) 0 0, .slice (some ⟨qb, 0, none⟩) nq nq] 99)).setCell ⟨w.heap.size + 1, 0, none⟩ (.int .i64 0)) (w.heap.size + 1) #[.int .i64 0] 67 from (FE_2.out.alloc _).set 0 _)
 have HO3 := η (show Bx ((w2.alloc (.cells #[.int .i64 5, .int .i64 0, .slice (some ⟨g1, 0, none⟩) n hc, .int .i64 (nq : Int), .slice (some ⟨r, 0, none⟩) n rc, .slice (some ⟨pb, 0, none⟩) 0 0, .slice (some ⟨qb, 0, none⟩) nq nq] 99)).setCell ⟨w.heap.size + 1, 0, none⟩ (.int .i64 0)) w.heap.size #[.slice none 0 0] 24 from (FO_2.out.alloc _).other _ (by show w.heap.size ≠ w.heap.size + 1; omega))
 have HX3 := η (show Qus ((w2.alloc (.cells #[.int .i64 5, .int .i64 0, .slice (some ⟨g1, 0, none⟩) n hc, .int .i64 (nq : Int), .slice (some ⟨r, 0, none⟩) n rc, .slice (some ⟨pb, 0, none⟩) 0 0, .slice (some ⟨qb, 0, none⟩) nq nq] 99)).setCell ⟨w.heap.size + 1, 0, none⟩ (.int .i64 0)) (some ⟨qb, 0, none⟩) nq nq f g qd from (FX_2.out.alloc _).setFar (ZjM FX_2.out h1q FE_2.out))
 have HH3 := η (show Rgs ((w2.alloc (.cells #[.int .i64 5, .int .i64 0, .slice (some ⟨g1, 0, none⟩) n hc, .int .i64 (nq : Int), .slice (some ⟨r, 0, none⟩) n rc, .slice (some ⟨pb, 0, none⟩) 0 0, .slice (some ⟨qb, 0, none⟩) nq nq] 99)).setCell ⟨w.heap.size + 1, 0, none⟩ (.int .i64 0)) (some ⟨g1, 0, none⟩) n hc d v Q0 from (FH_2.out.alloc _).setFar (Zfg FH_2.out HPOS.out FE_2.out))
 have HG3 := η (show Rgs ((w2.alloc (.cells #[.int .i64 5, .int .i64 0, .slice (some ⟨g1, 0, none⟩) n hc, .int .i64 (nq : Int), .slice (some ⟨r, 0, none⟩) n rc, .slice (some ⟨pb, 0, none⟩) 0 0, .slice (some ⟨qb, 0, none⟩) nq nq] 99)).setCell ⟨w.heap.size + 1, 0, none⟩ (.int .i64 0)) (some ⟨r, 0, none⟩) n rc d v (putQ B_ fun i => (Q i).2.1) from (FG_2.out.alloc _).setFar (Zfg FG_2.out HPOS.out FE_2.out))
 have HP3 := η (show RgP ((w2.alloc (.cells #[.int .i64 5, .int .i64 0, .slice (some ⟨g1, 0, none⟩) n hc, .int .i64 (nq : Int), .slice (some ⟨r, 0, none⟩) n rc, .slice (some ⟨pb, 0, none⟩) 0 0, .slice (some ⟨qb, 0, none⟩) nq nq] 99)).setCell ⟨w.heap.size + 1, 0, none⟩ (.int .i64 0)) n (putQ B_ fun i => (Q i).2.1) F G from ⟨fun i hi => by
  have h := FP_2.out.pts i hi
  have hk : 0 < (Q i).2.1 := by have := HO.out.num i hi; have := HO.out.toOkK.range hi; omega
  exact Pts.setFar (B := B_ i) (off := 0) (h.alloc _) (ZjC (B := B_ i) h hk FE_2.out)⟩)
 have HB3 := η (show Below w.heap.size w ((w2.alloc (.cells #[.int .i64 5, .int .i64 0, .slice (some ⟨g1, 0, none⟩) n hc, .int .i64 (nq : Int), .slice (some ⟨r, 0, none⟩) n rc, .slice (some ⟨pb, 0, none⟩) 0 0, .slice (some ⟨qb, 0, none⟩) nq nq] 99)).setCell ⟨w.heap.size + 1, 0, none⟩ (.int .i64 0)) from (HB2.out.alloc HB2.out.size _).setCell (p := ⟨w.heap.size + 1, 0, none⟩) (by show w.heap.size ≤ w.heap.size + 1; omega) _)
 have HT3 := η (HT0.out.below HB3.out ν)
 have HOK := η (show OkR n v (putQ B_ fun i => (Q i).2.1) from ⟨HO.out.toOkK, HO.out.num⟩)
 generalize ((w2.alloc (.cells #[.int .i64 5, .int .i64 0, .slice (some ⟨g1, 0, none⟩) n hc, .int .i64 (nq : Int), .slice (some ⟨r, 0, none⟩) n rc, .slice (some ⟨pb, 0, none⟩) 0 0, .slice (some ⟨qb, 0, none⟩) nq nq] 99)).setCell ⟨w.heap.size + 1, 0, none⟩ (.int .i64 0)) = w3 at *
 generalize w2.heap.size = rb at *
 clear FE_2 FO_2 FP_2 FX_2 FH_2 FG_2 HB2 FT_2
 have vE0 := HE3.out.cell 0 (v := .int .i64 0) rfl
 have vR0 := HR3.out.cell 0 (v := .int .i64 5) rfl
 have vR1 := HR3.out.cell 1 (v := .int .i64 0) rfl
 have vR2 := HR3.out.cell 2 (v := .slice (some ⟨g1, 0, none⟩) n hc) rfl
 have vR3 := HR3.out.cell 3 (v := .int .i64 (nq : Int)) rfl
 have vR4 := HR3.out.cell 4 (v := .slice (some ⟨r, 0, none⟩) n rc) rfl
 have vR5 := HR3.out.cell 5 (v := .slice (some ⟨pb, 0, none⟩) 0 0) rfl
 have vR6 := HR3.out.cell 6 (v := .slice (some ⟨qb, 0, none⟩) nq nq) rfl
 go_wp2_with fail
 refine (ZeG (some ⟨g1, 0, none⟩) hc Q0 (some ⟨r, 0, none⟩) n rc d v (putQ B_ fun i => (Q i).2.1) F G pb (some ⟨qb, 0, none⟩) nq nq f g qd h1q h2q V K X N1 _ HV.out HK.out HX.out HN1.out HT3.out HH3.out (fun _ _ => rfl) HG3.out HP3.out HOK.out HX3.out).mono ?_
 rintro e w4 ⟨⟨gb, h', rfl, his, hrc⟩, B⟩
 clear vE0 vR0 vR1 vR2 vR3 vR4 vR5 vR6
 have HB4 := η (HB3.out.trans (B.mono HB3.out.size))
 have FT_4 := η (HT3.out.below B ν)
 have FR_4 := η (HR3.out.below B ν)
 have FE_4 := η (HE3.out.below B ν)
 have FO_4 := η (HO3.out.below B ν)
 have FP_4 := η (HP3.out.below B ν)
 have FX_4 := η (HX3.out.below B ν)
 have FH_4 := η (HH3.out.below B ν)
 have FG_4 := η (HG3.out.below B ν)
 have FS_4 := η hrc
 clear B hrc HB3 HT3 HR3 HE3 HO3 HP3 HX3 HH3 HG3
 have HIS := η his; clear his
 have e0 := FE_4.out.cell 0 (v := .int .i64 0) rfl; have ez := FE_4.out.free 0
 have d0 := (FE_4.out.alloc (.cells #[.int .i64 X, .int .i64 (N1 : Int), .slice (some ⟨gb, 0, none⟩) nq nq] 102)).cell 0 (v := .int .i64 0) rfl; have dz := (FE_4.out.alloc (.cells #[.int .i64 X, .int .i64 (N1 : Int), .slice (some ⟨gb, 0, none⟩) nq nq] 102)).free 0
 go_upto_region 7 with (fail)
 clear e0 ez d0 dz
 have HR5 := η (show Bx ((w4.alloc (.cells #[.int .i64 X, .int .i64 (N1 : Int), .slice (some ⟨gb, 0, none⟩) nq nq] 102)).setCell ⟨w.heap.size + 1, 0, none⟩ (.int .i64 0)) rb #[.int .i64 5, .int .i64 0, .slice (some ⟨g1, 0, none⟩) n hc, .int .i64 (nq : Int), .slice (some ⟨r, 0, none⟩) n rc, .slice (some ⟨pb, 0, none⟩) 0 0, .slice (some ⟨qb, 0, none⟩) nq nq] 99 from (FR_4.out.alloc _).other _ (Zaa FR_4.out FE_4.out (by decide)))
 have HA5 := η (show Bx ((w4.alloc (.cells #[.int .i64 X, .int .i64 (N1 : Int), .slice (some ⟨gb, 0, none⟩) nq nq] 102)).setCell ⟨w.heap.size + 1, 0, none⟩ (.int .i64 0)) w4.heap.size #[.int .i64 X, .int .i64 (N1 : Int), .slice (some ⟨gb, 0, none⟩) nq nq] 102 from (Bx.new _ _ _).other _ (by have := FE_4.out.lt; show w4.heap.size ≠ w.heap.size + 1; omega))
 have HE5 := η (show Bx ((w4.alloc (.cells #[.int .i64 X, .int .i64 (N1 : Int), .slice (some ⟨gb, 0, none⟩) nq nq] 102)).setCell ⟨w.heap.size + 1, 0, none⟩ (.int .i64 0)) (w.heap.size + 1) #[.int .i64 0] 67 from (FE_4.out.alloc _).set 0 _)
 have HO5 := η (show Bx ((w4.alloc (.cells #[.int .i64 X, .int .i64 (N1 : Int), .slice (some ⟨gb, 0, none⟩) nq nq] 102)).setCell ⟨w.heap.size + 1, 0, none⟩ (.int .i64 0)) w.heap.size #[.slice none 0 0] 24 from (FO_4.out.alloc _).other _ (by show w.heap.size ≠ w.heap.size + 1; omega))
 have HH5 := η (show Rgs ((w4.alloc (.cells #[.int .i64 X, .int .i64 (N1 : Int), .slice (some ⟨gb, 0, none⟩) nq nq] 102)).setCell ⟨w.heap.size + 1, 0, none⟩ (.int .i64 0)) (some ⟨g1, 0, none⟩) n hc d v Q0 from (FH_4.out.alloc _).setFar (Zfg FH_4.out HPOS.out FE_4.out))
 have HS5 := η (show Rcs ((w4.alloc (.cells #[.int .i64 X, .int .i64 (N1 : Int), .slice (some ⟨gb, 0, none⟩) nq nq] 102)).setCell ⟨w.heap.size + 1, 0, none⟩ (.int .i64 0)) (some ⟨gb, 0, none⟩) nq nq h' from (FS_4.out.alloc _).setFar (ZjL FS_4.out h1q FE_4.out))
 have HB5 := η (show Below w.heap.size w ((w4.alloc (.cells #[.int .i64 X, .int .i64 (N1 : Int), .slice (some ⟨gb, 0, none⟩) nq nq] 102)).setCell ⟨w.heap.size + 1, 0, none⟩ (.int .i64 0)) from (HB4.out.alloc HB4.out.size _).setCell (p := ⟨w.heap.size + 1, 0, none⟩) (by show w.heap.size ≤ w.heap.size + 1; omega) _)
 generalize ((w4.alloc (.cells #[.int .i64 X, .int .i64 (N1 : Int), .slice (some ⟨gb, 0, none⟩) nq nq] 102)).setCell ⟨w.heap.size + 1, 0, none⟩ (.int .i64 0)) = w5 at *
 generalize w4.heap.size = ab at *
 clear FE_4 FO_4 FP_4 FX_4 FH_4 FG_4 HB4 FT_4 FR_4 FS_4
 have vE0 := HE5.out.cell 0 (v := .int .i64 0) rfl
 have vR0 := HR5.out.cell 0 (v := .int .i64 5) rfl
 have vR1 := HR5.out.cell 1 (v := .int .i64 0) rfl
 have vR2 := HR5.out.cell 2 (v := .slice (some ⟨g1, 0, none⟩) n hc) rfl
 have vR3 := HR5.out.cell 3 (v := .int .i64 (nq : Int)) rfl
 have vR4 := HR5.out.cell 4 (v := .slice (some ⟨r, 0, none⟩) n rc) rfl
 have vR5 := HR5.out.cell 5 (v := .slice (some ⟨pb, 0, none⟩) 0 0) rfl
 have vR6 := HR5.out.cell 6 (v := .slice (some ⟨qb, 0, none⟩) nq nq) rfl
 have vA0 := HA5.out.cell 0 (v := .int .i64 X) rfl
 have vA1 := HA5.out.cell 1 (v := .int .i64 (N1 : Int)) rfl
 have vA2 := HA5.out.cell 2 (v := .slice (some ⟨gb, 0, none⟩) nq nq) rfl
 go_wp2_with fail
 refine (ZdT (some ⟨g1, 0, none⟩) n hc d v Q0 X N1 nq gb h' HXR.out HNL.out HX0.out h1q (by omega) (fun i hi => by rw [← HN1.out]; exact Zfv HIS.out hi) _ HH5.out (fun _ _ => rfl) HO.out.toOkK HS5.out).mono ?_
 rintro e w6 ⟨⟨A', L', c', rfl, hL, hby⟩, B⟩
 clear vE0 vR0 vR1 vR2 vR3 vR4 vR5 vR6 vA0 vA1 vA2
 have HB6 := η (HB5.out.trans (B.mono HB5.out.size))
 have FR_6 := η (HR5.out.below B ν)
 have FA_6 := η (HA5.out.below B ν)
 have FE_6 := η (HE5.out.below B ν)
 have FO_6 := η (HO5.out.below B ν)
 have FH_6 := η (HH5.out.below B ν)
 have FS_6 := η (HS5.out.below B ν)
 have FY_6 := η hby
 clear B hby HB5 HR5 HA5 HE5 HO5 HH5 HS5
 have HL := η hL; clear hL
 have e0 := FE_6.out.cell 0 (v := .int .i64 0) rfl; have ez := FE_6.out.free 0; have o0 := FO_6.out.cell 0 (v := .slice none 0 0) rfl; have oz := FO_6.out.free 0
 go_wp2_with fail
 clear e0 ez o0 oz
 have hne : w.heap.size ≠ w.heap.size + 1 := by omega
 have HO6 := η (FO_6.out.set 0 (.slice A' L' c'))
 have HE6 := η (FE_6.out.other (a := ⟨w.heap.size, 0, none⟩) (.slice A' L' c') (by show w.heap.size + 1 ≠ w.heap.size; omega))
 have HY6 := η (JT FY_6.out FO_6.out (by simp) (JK _ _ 0 (.slice A' L' c')))
 have HO7 := η (HO6.out.other (a := ⟨w.heap.size + 1, 0, none⟩) (.int .i64 0) hne)
 have HE7 := η (HE6.out.set 0 (.int .i64 0))
 have HY7 := η (JT HY6.out HE6.out (by simp) (JK _ _ 0 (.int .i64 0)))
 have HO8 := η (HO7.out.set 0 (.slice A' L' c'))
 have HE8 := η (HE7.out.other (a := ⟨w.heap.size, 0, none⟩) (.slice A' L' c') (by show w.heap.size + 1 ≠ w.heap.size; omega))
 have HY8 := η (JT HY7.out HO7.out (by simp) (JK _ _ 0 (.slice A' L' c')))
 have HB8 := η (((HB6.out.setCell (p := ⟨w.heap.size, 0, none⟩) ν (.slice A' L' c')).setCell (p := ⟨w.heap.size + 1, 0, none⟩) (by show w.heap.size ≤ w.heap.size + 1; omega) (.int .i64 0)).setCell (p := ⟨w.heap.size, 0, none⟩) ν (.slice A' L' c'))
 generalize (((w6.setCell ⟨w.heap.size, 0, none⟩ (.slice A' L' c')).setCell ⟨w.heap.size + 1, 0, none⟩ (.int .i64 0)).setCell ⟨w.heap.size, 0, none⟩ (.slice A' L' c')) = w8 at *
 refine leaves_cons (f := 53) (args := #[.pointer (some ⟨w.heap.size + 1, 0, none⟩), .pointer (some ⟨w.heap.size, 0, none⟩)]) (by simp) (by simp [go_sem]) ?_
 refine (ZcJ _ _ _ (HE8.out.cell 0 rfl) _).mono ?_
 rintro e u' w'' ⟨rfl, rfl, rfl⟩
 have q := HO8.out.cell 0 (v := .slice A' L' c') rfl
 exact ⟨.slice A' L' c', by simp [results, Tryz.results30, go_sem, q], ⟨A', L', c', h', rfl, HIS.out, HL.out, HY8.out⟩, HB8.out⟩
set_option maxRecDepth 100000 in
theorem Zcp (nq : Nat) (h1q : 1 ≤ nq) (h2q : nq ≤ 100) (n : Nat) (d : Nat → Bool) (v : Nat → Int) (Q : Nat → Option Addr × Nat × Nat) (F G : Nat → Nat → Int) (ho : OkR n v Q) (hi : ∀ i, i < n → ∀ j, j < (Q i).2.1 → IsI (F i j) ∧ IsI (G i j)) (f g qd : Nat → Int) (hfg : ∀ i, i < nq → IsI (f i) ∧ IsI (g i) ∧ IsW (qd i)) (V : Bool) (K : Nat → Int) (X : Int) (N1 : Nat) (hV : allB (vR v Q F G) n = V) (hK : Zag V d v Q F G n f g qd = K) (hX : b2i V = X) (hN1 : Jy K nq = N1) (A : Option Addr) (N c : Nat) (w : World) (hT : TabM w) (hF : TabF w) (hN : (hdrB 5 n d v nq ++ (rgsB Q F G n ++ qusB f g qd nq)).length = N) (hb : By w A c (hdrB 5 n d v nq ++ (rgsB Q F G n ++ qusB f g qd nq))) :
  Calls Tryz.prog 11 #[.slice A N c] w fun e w' => (∃ A' L c' h', e = .returned (.slice A' L c') ∧ IsSort K nq h' ∧ ([0, X, (N1 : Int) % 256, (N1 : Int) / 256] ++ recB h' nq).length = L ∧ By w' A' c' ([0, X, (N1 : Int) % 256, (N1 : Int) / 256] ++ recB h' nq)) ∧ Below w.heap.size w w' := by
 have HC := η (ZeI nq h1q h2q n d v Q F G ho hi f g qd hfg V K X N1 hV hK hX hN1 A N c w hT hF hN hb); clear hT hF hi hb ho hfg hN hV hK hX hN1
 go_enter Tryz.func11, Tryz.ntmps11
 go_wp2_with fail
 refine HC.out.mono ?_
 rintro e w' ⟨⟨A', L', c', h', rfl, hs, hL, hy⟩, B⟩
 have HY := η hy; have HB := η B; have HS := η hs; have HL := η hL; clear hy B hs hL
 go_wp2_with fail
 go_ret
 exact ⟨⟨A', L', c', h', rfl, HS.out, HL.out, HY.out⟩, HB.out⟩
set_option maxRecDepth 100000 in
theorem ZgQ (A : Option Addr) (n c : Nat) (d : Nat → Bool) (v : Nat → Int) (Q : Nat → Option Addr × Nat × Nat) (QA : Option Addr) (qn qc : Nat) (w : World) (hr : Rgs w A n c d v Q) :
  Calls Tryz.prog 14 #[.slice A n c, .slice QA qn qc] w fun e w' => (∃ x : Int, e = .returned (.int .i64 x) ∧ (0 < x ∨ qn ≤ 100)) ∧ Below w.heap.size w w' := by
 have HR := η hr
 have hcp := hr.cap
 have hmx := hr.max
 clear hr
 unfold maxLen at hmx
 go_enter Tryz.func14, Tryz.ntmps14
 go_wp2_with fail
 refine (ZfW A n c d v Q _ HR.out).mono ?_
 rintro e w2 ⟨⟨x, rfl⟩, B⟩
 have HB2 := η B; clear B
 by_cases h0 : x > 0
 ·go_wp2_with fail
  go_ret
  exact ⟨⟨1, rfl, .inl (by decide)⟩, HB2.out⟩
 by_cases h1 : (qn : Int) > 100
 ·go_wp2_with fail
  go_ret
  exact ⟨⟨1, rfl, .inl (by decide)⟩, HB2.out⟩
 have HQ := η (show qn ≤ 100 from by omega)
 go_wp2_with fail
 go_loopw [5, 18] (fun mr ir wr => ∃ (k : Nat) (s : Int), k ≤ n ∧ mr = .int .i64 s ∧ ir = .int .i64 (k : Int) ∧ Below w.heap.size w wr) (fun _ i _ => n - (intOf i).toNat)
 case atStart => exact ⟨0, 0, by omega, rfl, rfl, HB2.out⟩
 case round =>
  obtain ⟨k, s, hk, rfl, rfl, hb⟩ := hrel
  have HB := η hb; clear hb
  by_cases hlt : k < n
  ·obtain ⟨b, off, rfl, hbl, hc⟩ := HR.out.at_ (by omega)
   have p0 : wr.cell? ⟨b, off + k * 3, none⟩ = some (.bool (d k)) := (HB.out.cell (p := ⟨b, off + k * 3, none⟩) hbl).trans (hc k hlt).1
   have p1 : wr.cell? ⟨b, off + k * 3 + 1, none⟩ = some (.int .i64 (v k)) := (HB.out.cell (p := ⟨b, off + k * 3 + 1, none⟩) hbl).trans (hc k hlt).2.1
   have p2 : wr.cell? ⟨b, off + k * 3 + 2, none⟩ = some (.slice (Q k).1 (Q k).2.1 (Q k).2.2) := (HB.out.cell (p := ⟨b, off + k * 3 + 2, none⟩) hbl).trans (hc k hlt).2.2
   clear hc hbl
   have hms := η (show n - (intOf (.int .i64 ((k : Int) + 1))).toNat < n - (intOf (.int .i64 (k : Int))).toNat from by simp [intOf]; omega)
   have HB9 := η (show Below w.heap.size w (wr.alloc (.cells #[.bool (d k), .int .i64 (v k), .slice (Q k).1 (Q k).2.1 (Q k).2.2] 48)) from HB.out.alloc HB.out.size _)
   go_wp2_with fail
   go_roundw
   case rel => exact ⟨k + 1, _, hlt, rfl, by go_num, HB9.out⟩
   case measure => exact hms.out
  ·obtain rfl : k = n := by omega
   by_cases h2 : 2000 < IntKind.i64.wrap (s * (qn : Int))
   all_goals
    go_wp2_with fail
    all_goals (go_ret; exact ⟨⟨_, rfl, .inr HQ.out⟩, HB.out⟩)
def rv {α : Type _} (n : Nat) (p : Nat → α) : Nat → α := fun i => p (n - 1 - i)
theorem OkR.rv {n : Nat} {v : Nat → Int} {Q : Nat → Option Addr × Nat × Nat} (h : OkR n v Q) : OkR n (rv n v) (rv n Q) :=
 ⟨⟨h.pos, h.le, fun i hi => h.kind _ (by omega)⟩, fun i hi => h.num _ (by omega)⟩
theorem RgP.rv {w : World} {n : Nat} {Q : Nat → Option Addr × Nat × Nat} {F G : Nat → Nat → Int} (h : RgP w n Q F G) : RgP w n (rv n Q) (rv n F) (rv n G) :=
 ⟨fun i hi => h.pts _ (by omega)⟩
theorem Zk7 (p : Int) (n : Nat) (d : Nat → Bool) (v : Nat → Int) (Q : Nat → Option Addr × Nat × Nat) (F G : Nat → Nat → Int) (f g : Nat → Int) (nq : Nat) (qf qg qd : Nat → Int) : reqB 5 n d v p Q F G 0 f g nq qf qg qd = hdrB 5 n d v p ++ (rgsB Q F G n ++ qusB qf qg qd nq) := by
 unfold reqB; rw [ptsB, List.append_nil, List.append_assoc]
theorem Zdv (A : Option Addr) (n c : Nat) (d : Nat → Bool) (v : Nat → Int) (Q : Nat → Option Addr × Nat × Nat) (F G : Nat → Nat → Int) (QA : Option Addr) (nq qc : Nat) (qf qg qd : Nat → Int) (ho : OkR n v Q) (h0 : 1 ≤ nq) (h9 : nq ≤ 4096) (w : World) (hr : Rgs w A n c d v Q) (hp : RgP w n Q F G) (hqq : Qus w QA nq qc qf qg qd) :
  Calls Tryz.prog 25 #[.slice A n c, .slice QA nq qc] w fun e w' => (∃ A' N c', e = .returned (.slice A' N c') ∧ (hdrB 5 n d v nq ++ (rgsB Q F G n ++ qusB qf qg qd nq)).length = N ∧ By w' A' c' (hdrB 5 n d v nq ++ (rgsB Q F G n ++ qusB qf qg qd nq))) ∧ Below w.heap.size w w' := by
 have h := Zhj A n c d v Q F G QA nq qc qf qg qd ho h0 h9 w hr hp hqq
 rw [Zk7] at h
 exact h
theorem Zcq (A B : Option Addr) (c d n m : Nat) (l : List Int) (hn : l.length = n) (hm : l.length = m) (w : World) (h1 : By w A c l) (h2 : By w B d l) :
  Calls Tryz.prog 10 #[.slice A n c, .slice B m d] w fun e w' => e = .returned (.bool true) ∧ w = w' := by
 subst hn hm
 exact ZaN A B c d l w h1 h2
theorem Zih (K : Nat → Int) (m : Nat) : Jy (rv m K) m = Jy K m := by
 have h1 := ZbZ (rv m K) m
 have h2 := ZbZ K m
 have h3 : cge (rv m K) 18446744073709551616 m = cge K 18446744073709551616 m := ZdO K _ m
 omega
theorem Zdw {K h k : Nat → Int} {m : Nat} (a : IsSort K m h) (b : IsSort K m k) : recB h m = recB k m :=
 Zds m (fun i hi => a.unique b (fun _ => rfl) hi)
theorem IsSort.unrv {K h : Nat → Int} {m : Nat} (a : IsSort (rv m K) m h) : IsSort K m h :=
 ⟨a.srt, fun t => (a.cnt t).trans (ZdO K t m)⟩
end Go.Proofs.YtjdiilkljgljkaaGreatDoor
