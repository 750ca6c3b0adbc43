/- Contract of serve's Handle at operations 1 and 2. Contract of the codec's take at points. Contract of the codec's Decode at requests without regions. Contracts of serve's Traced and Serve at operations 1 and 2. A request without bytes: the header's parsing, the codec's decoding, the service. The service at requests without regions, and at no request. bytes.Equal at equal bytes; the request's bytes; small requests are answered. The kinds of regions, and how many points they have. Slices of regions: what they hold, index by index. Plain facts on memory; no program's run. The checks of the public structure of regions. Contracts of package disc, without a tape. A region that draws its order within the body of a range over a function (and anywhere inside the wide fence): values in whatever order, then the operations that wait for all of them. -/
import Derived.Test.YtjdiilkljgljkaaGreatDoorMd
import Derived.Test.YtjdiilkljgljkaaGreatDoorMb
import Derived.OwnWalk
import Derived.Defers
import Derived.Recover
import Derived.Deep.DeepCutAuto
import Derived.ScopeJumps
import Derived.Shelf.Bytes.SlEqualAll
import Derived.WalkLawsBesides
import Derived.Test.YtjdiilkljgljkaaGreatDoorMa
import Derived.Test.YtjdiilkljgljkaaGreatDoorMc
import Derived.OrdersIn
import Derived.ControlIn
import Derived.TacticsIn
import Derived.RangeFuncCalls
import Derived.Scope
namespace Go.Proofs.YtjdiilkljgljkaaGreatDoor
set_option linter.unusedVariables false
set_option linter.unusedSimpArgs false
open Go.RowKit Wd

set_option maxHeartbeats 4000000 in
set_option maxRecDepth 100000 in
theorem serve_Handle1 (Q : Option Addr) (qc pb c : Nat) (f g : Nat → Int) (w : World) (hT : TabM w) (hp : Pts w (some ⟨pb, 0, none⟩) 3 c f g) :
    Calls Tryz.prog 55 #[.pointer none, .agg #[.int .i64 1, .int .i64 0, .slice none 0 0, .int .i64 0, .slice none 0 0, .slice (some ⟨pb, 0, none⟩) 3 c, .slice Q 0 qc]] w fun e w' => e = .returned (.tuple #[.agg #[.int .i64 (sg (det (f 0) (g 0) (f 1) (g 1) (f 2) (g 2)) + 1), .int .i64 0, .slice none 0 0], .int .i64 0]) ∧ Below w.heap.size w w' := by
  have HB0 := Lib.hid (Below.refl w.heap.size w); have FT := Lib.hid hT; have FP := Lib.hid hp; clear hT hp
  go_enter Tryz.func55, Tryz.ntmps55
  go_wp2_with fail
  have B : Below w.heap.size w ((w.alloc (.cells #[.int .i64 1, .int .i64 0, .slice none 0 0, .int .i64 0, .slice none 0 0, .slice (some ⟨pb, 0, none⟩) 3 c, .slice Q 0 qc] 99)).alloc (.cells #[.int .i64 0, .int .i64 0, .slice none 0 0] 102)) := ((HB0.out.alloc HB0.out.size _).alloc (HB0.out.alloc HB0.out.size _).size _)
  have C : Below w.heap.size w ((w.alloc (.cells #[.int .i64 1, .int .i64 0, .slice none 0 0, .int .i64 0, .slice none 0 0, .slice (some ⟨pb, 0, none⟩) 3 c, .slice Q 0 qc] 99)).alloc (.cells #[.int .i64 0, .int .i64 0, .slice none 0 0] 102)) := (((Below.refl w.heap.size w).alloc (Nat.le_refl _) _).alloc (by simp; try omega) _)
  have X0 : Bx ((w.alloc (.cells #[.int .i64 1, .int .i64 0, .slice none 0 0, .int .i64 0, .slice none 0 0, .slice (some ⟨pb, 0, none⟩) 3 c, .slice Q 0 qc] 99)).alloc (.cells #[.int .i64 0, .int .i64 0, .slice none 0 0] 102)) (w.heap.size) #[.int .i64 1, .int .i64 0, .slice none 0 0, .int .i64 0, .slice none 0 0, .slice (some ⟨pb, 0, none⟩) 3 c, .slice Q 0 qc] 99 := by simpa using ((Bx.new w #[.int .i64 1, .int .i64 0, .slice none 0 0, .int .i64 0, .slice none 0 0, .slice (some ⟨pb, 0, none⟩) 3 c, .slice Q 0 qc] 99).alloc _)
  have X1 : Bx ((w.alloc (.cells #[.int .i64 1, .int .i64 0, .slice none 0 0, .int .i64 0, .slice none 0 0, .slice (some ⟨pb, 0, none⟩) 3 c, .slice Q 0 qc] 99)).alloc (.cells #[.int .i64 0, .int .i64 0, .slice none 0 0] 102)) (w.heap.size + 1) #[.int .i64 0, .int .i64 0, .slice none 0 0] 102 := by simpa using (Bx.new (w.alloc (.cells #[.int .i64 1, .int .i64 0, .slice none 0 0, .int .i64 0, .slice none 0 0, .slice (some ⟨pb, 0, none⟩) 3 c, .slice Q 0 qc] 99)) #[.int .i64 0, .int .i64 0, .slice none 0 0] 102)
  have FT_1 := Lib.hid (FT.out.below C (Nat.le_refl _))
  have FP_1 := Lib.hid (FP.out.below C (Nat.le_refl _))
  have HB1 := Lib.hid B
  have FR_1 := Lib.hid X0
  have FZ_1 := Lib.hid X1
  clear B C X0 X1 HB0 FT FP
  generalize ((w.alloc (.cells #[.int .i64 1, .int .i64 0, .slice none 0 0, .int .i64 0, .slice none 0 0, .slice (some ⟨pb, 0, none⟩) 3 c, .slice Q 0 qc] 99)).alloc (.cells #[.int .i64 0, .int .i64 0, .slice none 0 0] 102)) = w1 at *
  have vR0 := FR_1.out.cell 0 (v := .int .i64 1) rfl
  have vR1 := FR_1.out.cell 1 (v := .int .i64 0) rfl
  have vR2 := FR_1.out.cell 2 (v := .slice none 0 0) rfl
  have vR3 := FR_1.out.cell 3 (v := .int .i64 0) rfl
  have vR4 := FR_1.out.cell 4 (v := .slice none 0 0) rfl
  have vR5 := FR_1.out.cell 5 (v := .slice (some ⟨pb, 0, none⟩) 3 c) rfl
  have vR6 := FR_1.out.cell 6 (v := .slice Q 0 qc) rfl
  go_wp2_with fail
  refine (codec_Encode12 1 (by decide) (some ⟨pb, 0, none⟩) c f g Q qc _ FP_1.out).mono ?_
  rintro e w2 ⟨⟨v, rfl⟩, B⟩
  clear vR0 vR1 vR2 vR3 vR4 vR5 vR6
  have HB2 := Lib.hid (HB1.out.trans (B.mono HB1.out.size))
  have FT_2 := Lib.hid (FT_1.out.below B (Nat.le_refl _))
  have FP_2 := Lib.hid (FP_1.out.below B (Nat.le_refl _))
  have FR_2 := Lib.hid (FR_1.out.below B (Nat.le_refl _))
  have FZ_2 := Lib.hid (FZ_1.out.below B (Nat.le_refl _))
  clear B  HB1 FT_1 FP_1 FR_1 FZ_1
  have vR0 := FR_2.out.cell 0 (v := .int .i64 1) rfl
  have vR1 := FR_2.out.cell 1 (v := .int .i64 0) rfl
  have vR2 := FR_2.out.cell 2 (v := .slice none 0 0) rfl
  have vR3 := FR_2.out.cell 3 (v := .int .i64 0) rfl
  have vR4 := FR_2.out.cell 4 (v := .slice none 0 0) rfl
  have vR5 := FR_2.out.cell 5 (v := .slice (some ⟨pb, 0, none⟩) 3 c) rfl
  have vR6 := FR_2.out.cell 6 (v := .slice Q 0 qc) rfl
  go_wp2_with fail
  refine (engine_Answer1 Q qc pb c f g _ FT_2.out FP_2.out).mono ?_
  rintro e w3 ⟨rfl, B⟩
  clear vR0 vR1 vR2 vR3 vR4 vR5 vR6
  have HB3 := Lib.hid (HB2.out.trans (B.mono HB2.out.size))
  have FT_3 := Lib.hid (FT_2.out.below B (Nat.le_refl _))
  have FP_3 := Lib.hid (FP_2.out.below B (Nat.le_refl _))
  have FR_3 := Lib.hid (FR_2.out.below B (Nat.le_refl _))
  have FZ_3 := Lib.hid (FZ_2.out.below B (Nat.le_refl _))
  clear B  HB2 FT_2 FP_2 FR_2 FZ_2
  have z0 := FZ_3.out.cell 0 (v := .int .i64 0) rfl; have z1 := FZ_3.out.cell 1 (v := .int .i64 0) rfl; have z2 := FZ_3.out.cell 2 (v := .slice none 0 0) rfl; have y0 := FZ_3.out.free 0; have y1 := FZ_3.out.free 1; have y2 := FZ_3.out.free 2
  go_wp2_with fail
  clear z0 z1 z2 y0 y1 y2
  have HZ := Lib.hid (((FZ_3.out.set 0 (.int .i64 (sg (det (f 0) (g 0) (f 1) (g 1) (f 2) (g 2)) + 1))).set 1 (.int .i64 0)).set 2 (.slice none 0 0))
  have HBE := Lib.hid (((HB3.out.setCell (p := ⟨w.heap.size + 1, 0, none⟩) (by show w.heap.size ≤ w.heap.size + 1; omega) (.int .i64 (sg (det (f 0) (g 0) (f 1) (g 1) (f 2) (g 2)) + 1))).setCell (p := ⟨w.heap.size + 1, 1, none⟩) (by show w.heap.size ≤ w.heap.size + 1; omega) (.int .i64 0)).setCell (p := ⟨w.heap.size + 1, 2, none⟩) (by show w.heap.size ≤ w.heap.size + 1; omega) (.slice none 0 0))
  generalize (((w3.setCell ⟨w.heap.size + 1, 0, none⟩ (.int .i64 (sg (det (f 0) (g 0) (f 1) (g 1) (f 2) (g 2)) + 1))).setCell ⟨w.heap.size + 1, 1, none⟩ (.int .i64 0)).setCell ⟨w.heap.size + 1, 2, none⟩ (.slice none 0 0)) = wz at *
  have q0 := HZ.out.cell 0 (v := .int .i64 (sg (det (f 0) (g 0) (f 1) (g 1) (f 2) (g 2)) + 1)) rfl
  have q1 := HZ.out.cell 1 (v := .int .i64 0) rfl
  have q2 := HZ.out.cell 2 (v := .slice none 0 0) rfl
  refine bodyPost_ret (v := .tuple #[.agg #[.int .i64 (sg (det (f 0) (g 0) (f 1) (g 1) (f 2) (g 2)) + 1), .int .i64 0, .slice none 0 0], .int .i64 0]) (by simp [results, Tryz.results55, go_sem, q0, q1, q2]) rfl ⟨rfl, HBE.out⟩
end Go.Proofs.YtjdiilkljgljkaaGreatDoor
namespace Go.Proofs.YtjdiilkljgljkaaGreatDoor
set_option linter.unusedVariables false
set_option linter.unusedSimpArgs false
open Go.RowKit Wd

theorem infoPt0 : (Tryz.prog.info? 23).map (fun i => (i.zero, i.size, i.bytes)) = some (some (.agg #[.int .i64 0, .int .i64 0]), 2, 16) := by kernel_rfl
set_option maxHeartbeats 4000000 in
set_option maxRecDepth 100000 in
theorem take_ptsT (br n : Nat) (hn : n ≤ 10000) (f g : Nat → Int) (hi : ∀ i, i < n → IsI (f i) ∧ IsI (g i)) (l : List Int) (w : World) (hr : Rd w br (ptsB f g n ++ l)) :
    Calls Tryz.prog 79 #[.int .i64 n, .func (.func 81) #[.pointer (some ⟨br, 0, none⟩)] #[]] w fun e w' => (∃ b, e = .returned (.slice (some ⟨b, 0, none⟩) n n) ∧ w.heap.size ≤ b ∧ Pts w' (some ⟨b, 0, none⟩) n n f g ∧ (0 < n → ∃ cur, Bx w' b cur 23)) ∧ Rd w' br l ∧ w.grownBy w' (some br) := by
  obtain ⟨i0, hi0, hz0, hz1, hz2⟩ := info_parts infoPt0
  have HR := Lib.hid hr; have HI := Lib.hid hi; have HN := Lib.hid hn; have HLT := Lib.hid hr.lt; clear hr hi hn
  go_enter Tryz.func79, Tryz.ntmps79
  go_wp2_with (at_make; refine wpList_make_full _ rfl _ _ 29 rfl w.heap.size 23 i0 _ 2 Tryz.underlying29 hi0 hz0 hz1 .i64 .i64 (n : Int) (n : Int) n rfl rfl rfl rfl ?b1 ?b2 ?b3 ?_)
  case b1 => rw [hz2]; have := HN.out; omega
  case b2 => have := HN.out; unfold maxLen; omega
  case b3 => exact Nat.le_refl _
  intro w1 hown hg
  have HG1 := Lib.hid (show w.grownBy w1 (some br) from ⟨hg.os, hg.tape, hg.output, hg.size, fun k hk _ => hg.block k hk (by simp)⟩)
  have HO1 := Lib.hid hown
  have HR1 := Lib.hid (show Rd w1 br (ptsF f g 0 n ++ l) from by
    have h := HR.out; rw [ptsB_F0] at h
    exact h.below (B := w.heap.size) ⟨hg.os, hg.tape, hg.output, hg.size, fun k hk => hg.block k hk (by simp)⟩ (Nat.le_refl _))
  clear hown hg HR
  have HBL := Lib.hid (show 0 < n → ∃ cur, Bx w1 w.heap.size cur 23 ∧ cur.size = n * 2 ∧ NoB cur from fun h => ⟨_, madeRow HO1.out h, size_madeCells _ _, noB_made (fun u hu x => by simp [Value.cells] at hu; rw [hu]; simp) (by decide) _⟩)
  clear HO1
  go_wp2_with fail
  go_loopw [11] (fun ir wr => ∃ k : Nat, k ≤ n ∧ ir = .int .i64 (k : Int) ∧ (0 < n → ∃ cur, Bx wr w.heap.size cur 23 ∧ RowE cur 2 (n * 2) k (ptE f g) ∧ NoB cur) ∧ Rd wr br (ptsF f g k (n - k) ++ l) ∧ w.grownBy wr (some br)) (fun i _ => n - (intOf i).toNat)
  case atStart => exact ⟨0, Nat.zero_le _, rfl, fun h => by obtain ⟨cur, h1, h2, h3⟩ := HBL.out h; exact ⟨cur, h1, ⟨h2, fun i hi => absurd hi (Nat.not_lt_zero _)⟩, h3⟩, HR1.out, HG1.out⟩
  case round =>
    obtain ⟨k, hk, rfl, hrow, hrd, hg⟩ := hrel
    have HRW := Lib.hid hrow; have HRD := Lib.hid hrd; have HG := Lib.hid hg; clear hrow hrd hg
    by_cases hlt : k < n
    · have HRD2 := Lib.hid (show Rd wr br (ptB (f k) (g k) ++ (ptsF f g (k + 1) (n - (k + 1)) ++ l)) from by have := HRD.out; rw [ptsF_step f g hlt, List.append_assoc] at this; exact this)
      obtain ⟨cur, hbx, hre, hnb⟩ := HRW.out (by omega)
      have HBX := Lib.hid hbx; have HRE := Lib.hid hre; have HNB := Lib.hid hnb; clear hbx hre hnb HRD HRW HBL HR1 HG1
      have HNE := Lib.hid (show w.heap.size ≠ br from by have := HLT.out; omega)
      have HNN := HN.out
      have hms := Lib.hid (show n - (intOf (.int .i64 ((k : Int) + 1))).toNat < n - (intOf (.int .i64 (k : Int))).toNat from by simp [intOf]; omega)
      have w1_ : wrap64 ((k : Int) + 1) = (k : Int) + 1 := by rw [← IntWalk.i64_left, IntKind.wrap_i64]; omega
      have w2_ : IntKind.i64.wrap ((k : Int) + 1) = (k : Int) + 1 := by rw [IntKind.wrap_i64]; omega
      have HNN2 := Lib.hid HNN; clear HNN
      go_wp2_with fail
      refine (reader_point br (f k) (g k) (HI.out k hlt).1 (HI.out k hlt).2 _ _ HRD2.out).mono ?_
      rintro e w2 ⟨rfl, h2, g2⟩
      have HR2 := Lib.hid h2; have HB2 := Lib.hid (bx_gr HBX.out HNE.out g2); have HG2 := Lib.hid (HG.out.trans g2); clear h2 g2 HBX HG HRD2
      obtain ⟨v0, hv0⟩ := HRE.out.some (i := k * 2) (by omega)
      obtain ⟨v1, hv1⟩ := HRE.out.some (i := k * 2 + 1) (by omega)
      have c0 := HB2.out.cell (k * 2) (v := v0) hv0
      have c1 := HB2.out.cell (k * 2 + 1) (v := v1) hv1
      have z0 := HB2.out.free (k * 2)
      have z1 := HB2.out.free (k * 2 + 1)
      clear hv0 hv1
      go_wp2_with fail
      clear c0 c1 z0 z1
      have HB3 := Lib.hid (show Bx ((w2.setCell ⟨w.heap.size, k * 2, none⟩ (.int .i64 (f k))).setCell ⟨w.heap.size, k * 2 + 1, none⟩ (.int .i64 (g k))) w.heap.size (setRow cur (k * 2) [.int .i64 (f k), .int .i64 (g k)]) 23 from (HB2.out.set (k * 2) _).set (k * 2 + 1) _)
      have HRE3 := Lib.hid (HRE.out.snoc (by omega) [.int .i64 (f k), .int .i64 (g k)] rfl (fun j hj => by match j, hj with | 0, _ => rfl | 1, _ => rfl))
      have HG3 := Lib.hid (gr_new (i := k * 2 + 1) (v := .int .i64 (g k)) (gr_new (i := k * 2) (v := .int .i64 (f k)) HG2.out (Nat.le_refl w.heap.size)) (Nat.le_refl w.heap.size))
      have HR3 := Lib.hid (show Rd ((w2.setCell ⟨w.heap.size, k * 2, none⟩ (.int .i64 (f k))).setCell ⟨w.heap.size, k * 2 + 1, none⟩ (.int .i64 (g k))) br (ptsF f g (k + 1) (n - (k + 1)) ++ l) from by
        obtain ⟨A, c, h1, h2, h3⟩ := HR2.out
        exact ⟨A, c, (h1.other _ (fun e => HNE.out e.symm)).other _ (fun e => HNE.out e.symm), by_keep (by_keep h2 HB2.out HNB.out (gr_set _ _ _ _)) (HB2.out.set (k * 2) _) (noB_set HNB.out (by simp) _) (gr_set _ _ _ _), h3⟩)
      have HNB3 := Lib.hid (noB_setRow [.int .i64 (f k), .int .i64 (g k)] (k * 2) HNB.out (by simp))
      clear HB2 HR2 HG2 HRE
      go_roundw
      case rel => exact ⟨k + 1, hlt, by go_num, fun _ => ⟨_, HB3.out, HRE3.out, HNB3.out⟩, HR3.out, HG3.out⟩
      case measure => exact hms.out
    · obtain rfl : k = n := by omega
      have HRD2 := Lib.hid (show Rd wr br l from by have := HRD.out; rw [Nat.sub_self] at this; exact this)
      go_wp2_with fail
      go_ret
      refine ⟨⟨_, rfl, Nat.le_refl _, ?_, fun h0 => by obtain ⟨cur, h1, _⟩ := HRW.out h0; exact ⟨cur, h1⟩⟩, HRD2.out, HG.out⟩
      by_cases h0 : 0 < k
      · obtain ⟨cur, h1, h2, _⟩ := HRW.out h0
        exact bx_ptE h1 h2 (by have := HN.out; unfold maxLen; omega) HI.out
      · exact ⟨Nat.le_refl _, by have := HN.out; unfold maxLen; omega, HI.out, fun h => absurd h h0⟩
theorem take_pts (br n : Nat) (hn : n ≤ 10000) (f g : Nat → Int) (hi : ∀ i, i < n → IsI (f i) ∧ IsI (g i)) (l : List Int) (w : World) (hr : Rd w br (ptsB f g n ++ l)) :
    Calls Tryz.prog 79 #[.int .i64 n, .func (.func 81) #[.pointer (some ⟨br, 0, none⟩)] #[]] w fun e w' => (∃ b, e = .returned (.slice (some ⟨b, 0, none⟩) n n) ∧ w.heap.size ≤ b ∧ Pts w' (some ⟨b, 0, none⟩) n n f g) ∧ Rd w' br l ∧ w.grownBy w' (some br) :=
  (take_ptsT br n hn f g hi l w hr).mono fun e w' ⟨⟨b, h1, h2, h3, _⟩, h4, h5⟩ => ⟨⟨b, h1, h2, h3⟩, h4, h5⟩
end Go.Proofs.YtjdiilkljgljkaaGreatDoor
namespace Go.Proofs.YtjdiilkljgljkaaGreatDoor
set_option linter.unusedVariables false
set_option linter.unusedSimpArgs false
open Go.RowKit Wd

theorem Pts.setFar {w : World} {B off n c k i : Nat} {v : Value} {f g : Nat → Int} (h : Pts w (Option.some ⟨B, off, none⟩) n c f g) (hne : B ≠ k) : Pts (w.setCell ⟨k, i, none⟩ v) (Option.some ⟨B, off, none⟩) n c f g :=
  ⟨h.cap, h.max, h.isi, fun hn => by
    obtain ⟨b, o, e, hlt, hc⟩ := h.at_ hn
    obtain ⟨rfl, rfl⟩ : B = b ∧ off = o := by simpa using e
    exact ⟨B, off, rfl, by simpa [World.setCell] using hlt, fun j hj => ⟨keep_set (hc j hj).1 hne, keep_set (hc j hj).2 hne⟩⟩⟩
set_option maxHeartbeats 4000000 in
set_option maxRecDepth 100000 in
theorem codec_Decode12 (op : Int) (ho : op = 1 ∨ op = 2) (A : Option Addr) (c : Nat) (f g : Nat → Int) (hi : ∀ i, i < (op + 2).toNat → IsI (f i) ∧ IsI (g i)) (w : World) (hT : TabF w) (hb : By w A c (op :: ptsB f g (op + 2).toNat)) :
    Calls Tryz.prog 54 #[.slice A (16 * (op + 2).toNat + 1) c] w fun e w' => (∃ (B Q : Nat), e = .returned (.tuple #[.agg #[.int .i64 op, .int .i64 0, .slice none 0 0, .int .i64 0, .slice none 0 0, .slice (some ⟨B, 0, none⟩) (op + 2).toNat (op + 2).toNat, .slice (some ⟨Q, 0, none⟩) 0 0], .int .i64 0]) ∧ Pts w' (some ⟨B, 0, none⟩) (op + 2).toNat (op + 2).toNat f g) ∧ Below w.heap.size w w' := by
  rcases ho with rfl | rfl
  · have HI := Lib.hid (show ∀ i, i < 3 → IsI (f i) ∧ IsI (g i) from hi); clear hi
    have HBY := Lib.hid (show By w A c (1 :: ptsB f g 3) from hb); have HT := Lib.hid hT; clear hb hT
    rw [show ((1 : Int) + 2).toNat = 3 from rfl]
    have hln : (ptsB f g 3).length = 48 := ptsB_len f g 3
    obtain ⟨b, off, rfl, -, -⟩ := HBY.out.at_ (by simp)
    have hcp := HBY.out.cap
    simp only [List.length_cons, hln] at hcp
    have hmx := HBY.out.max
    unfold maxLen at hmx
    have hc1 : ¬ (c = 1) := by omega
    have HLN := Lib.hid hln; clear hln
    go_enter Tryz.func54, Tryz.ntmps54
    go_wp2_with fail
    have HZ := Lib.hid (Bx.new w #[.int .i64 0, .int .i64 0, .slice none 0 0, .int .i64 0, .slice none 0 0, .slice none 0 0, .slice none 0 0] 99)
    have HBY1 := Lib.hid (HBY.out.alloc (.cells #[.int .i64 0, .int .i64 0, .slice none 0 0, .int .i64 0, .slice none 0 0, .slice none 0 0, .slice none 0 0] 99)); have HT1 := Lib.hid (HT.out.alloc (.cells #[.int .i64 0, .int .i64 0, .slice none 0 0, .int .i64 0, .slice none 0 0, .slice none 0 0, .slice none 0 0] 99))
    have HB1 := Lib.hid (show Below w.heap.size w (w.alloc (.cells #[.int .i64 0, .int .i64 0, .slice none 0 0, .int .i64 0, .slice none 0 0, .slice none 0 0, .slice none 0 0] 99)) from below_al below_rf)
    generalize w.alloc (.cells #[.int .i64 0, .int .i64 0, .slice none 0 0, .int .i64 0, .slice none 0 0, .slice none 0 0, .slice none 0 0] 99) = w1 at *
    clear HBY HT
    have hcl := header_Classify12 (some ⟨b, off, none⟩) c 1 (by decide) (ptsB f g 3) w1 HT1.out HBY1.out (by rw [HLN.out]; rfl)
    have hpa := fun w0 => header_Parse12 (some ⟨b, off, none⟩) c 1 (by decide) (ptsB f g 3) w0
    rw [HLN.out] at hcl hpa
    have HCL := Lib.hid hcl; have HPA := Lib.hid hpa; clear hcl hpa
    refine HCL.out.mono ?_
    rintro e w2 ⟨rfl, B⟩
    have HBY2 := Lib.hid (HBY1.out.below B (Nat.le_refl _)); have HT2 := Lib.hid (HT1.out.below B (Nat.le_refl _)); have HZ2 := Lib.hid (HZ.out.below B (Nat.le_refl _)); have HB2 := Lib.hid (HB1.out.trans (B.mono HB1.out.size)); clear B HBY1 HT1 HZ HB1 HCL
    go_wp2_with fail
    refine (HPA.out _ HBY2.out).mono ?_
    rintro e w3 ⟨rfl, B⟩
    have HBY3 := Lib.hid (HBY2.out.below B (Nat.le_refl _)); have HZ3 := Lib.hid (HZ2.out.below B (Nat.le_refl _)); have HB3 := Lib.hid (HB2.out.trans (B.mono HB2.out.size)); clear B HBY2 HT2 HZ2 HB2 HPA
    go_wp2_with fail
    have HR := Lib.hid (show Rd (((w3.alloc (.cells #[.int .i64 1, .int .i64 0, .slice none 0 0, .int .i64 0] 28)).alloc (.cells #[.int .i64 1, .int .i64 0, .slice none 0 0, .int .i64 0, .slice none 0 0, .slice none 0 0, .slice none 0 0] 99)).alloc (.cells #[.slice (some ⟨b, off + 1, none⟩) 48 (c - 1)] 131)) (w3.heap.size + 1 + 1) (ptsB f g 3) from by
      have h1 := HBY3.out.tail
      rw [if_neg hc1] at h1
      refine ⟨some ⟨b, off + 1, none⟩, c - 1, ?_, ((h1.alloc _).alloc _).alloc _, fun a ha => by cases ha; obtain ⟨b', o', e, hlt, _⟩ := HBY3.out.at_ (by simp); cases e; show b < w3.heap.size + 1 + 1; omega⟩
      rw [HLN.out]; exact bx_new (by simp))
    have HH := Lib.hid (show Bx (((w3.alloc (.cells #[.int .i64 1, .int .i64 0, .slice none 0 0, .int .i64 0] 28)).alloc (.cells #[.int .i64 1, .int .i64 0, .slice none 0 0, .int .i64 0, .slice none 0 0, .slice none 0 0, .slice none 0 0] 99)).alloc (.cells #[.slice (some ⟨b, off + 1, none⟩) 48 (c - 1)] 131)) w3.heap.size #[.int .i64 1, .int .i64 0, .slice none 0 0, .int .i64 0] 28 from ((Bx.new _ _ _).alloc _).alloc _)
    have HQ := Lib.hid (show Bx (((w3.alloc (.cells #[.int .i64 1, .int .i64 0, .slice none 0 0, .int .i64 0] 28)).alloc (.cells #[.int .i64 1, .int .i64 0, .slice none 0 0, .int .i64 0, .slice none 0 0, .slice none 0 0, .slice none 0 0] 99)).alloc (.cells #[.slice (some ⟨b, off + 1, none⟩) 48 (c - 1)] 131)) (w3.heap.size + 1) #[.int .i64 1, .int .i64 0, .slice none 0 0, .int .i64 0, .slice none 0 0, .slice none 0 0, .slice none 0 0] 99 from (bx_new (by simp)).alloc _)
    have HZ6 := Lib.hid (show Bx (((w3.alloc (.cells #[.int .i64 1, .int .i64 0, .slice none 0 0, .int .i64 0] 28)).alloc (.cells #[.int .i64 1, .int .i64 0, .slice none 0 0, .int .i64 0, .slice none 0 0, .slice none 0 0, .slice none 0 0] 99)).alloc (.cells #[.slice (some ⟨b, off + 1, none⟩) 48 (c - 1)] 131)) w.heap.size #[.int .i64 0, .int .i64 0, .slice none 0 0, .int .i64 0, .slice none 0 0, .slice none 0 0, .slice none 0 0] 99 from ((HZ3.out.alloc _).alloc _).alloc _)
    have HB6 := Lib.hid (show Below w.heap.size w (((w3.alloc (.cells #[.int .i64 1, .int .i64 0, .slice none 0 0, .int .i64 0] 28)).alloc (.cells #[.int .i64 1, .int .i64 0, .slice none 0 0, .int .i64 0, .slice none 0 0, .slice none 0 0, .slice none 0 0] 99)).alloc (.cells #[.slice (some ⟨b, off + 1, none⟩) 48 (c - 1)] 131)) from ((HB3.out.alloc HB3.out.size _).alloc (by have := HB3.out.size; simp; omega) _).alloc (by have := HB3.out.size; simp; omega) _)
    have HLZ := Lib.hid (show w.heap.size < w3.heap.size from HZ3.out.lt)
    generalize ((w3.alloc (.cells #[.int .i64 1, .int .i64 0, .slice none 0 0, .int .i64 0] 28)).alloc (.cells #[.int .i64 1, .int .i64 0, .slice none 0 0, .int .i64 0, .slice none 0 0, .slice none 0 0, .slice none 0 0] 99)).alloc (.cells #[.slice (some ⟨b, off + 1, none⟩) 48 (c - 1)] 131) = w6 at *
    clear HBY3 HZ3 HB3
    generalize w3.heap.size = hb at *
    refine wp_loop_rounds 1 ?_
    rw [rounds_succ]
    have c0 := HH.out.cell 0 (v := .int .i64 1) rfl
    have c1 := HH.out.cell 1 (v := .int .i64 0) rfl
    have c2 := HH.out.cell 2 (v := .slice none 0 0) rfl
    have c3 := HH.out.cell 3 (v := .int .i64 0) rfl
    go_wp2_with fail
    clear c0 c1 c2 c3
    refine (codec_counts12 1 (by decide) _).mono ?_
    rintro e w7 ⟨rfl, B⟩
    have HR7 := Lib.hid (HR.out.below B (Nat.le_refl _)); have HQ7 := Lib.hid (HQ.out.below B (Nat.le_refl _)); have HZ7 := Lib.hid (HZ6.out.below B (Nat.le_refl _)); have HB7 := Lib.hid (HB6.out.trans (B.mono HB6.out.size)); clear B HR HQ HZ6 HB6 HH
    rw [show (1 : Int) + 2 = 3 from rfl]
    go_wp2_with fail
    refine (take_pts (hb + 1 + 1) 3 (by decide) f g HI.out [] _ (by rw [List.append_nil]; exact HR7.out)).mono ?_
    rintro e w8 ⟨⟨B, rfl, hBl, hP⟩, hR, g8⟩
    have HP8 := Lib.hid hP; have HR8 := Lib.hid hR; have HQ8 := Lib.hid (bx_gr HQ7.out (by omega) g8); have HZ8 := Lib.hid (bx_gr HZ7.out (by have := HLZ.out; omega) g8); have HB8 := Lib.hid (below_gr HB7.out (by have := HLZ.out; omega) HB7.out.size g8)
    have HBQ := Lib.hid (show B ≠ hb + 1 from by have := HQ7.out.lt; omega)
    have HBZ := Lib.hid (show B ≠ w.heap.size from by have := HZ7.out.lt; omega)
    clear hP hR g8 HR7 HQ7 HZ7 HB7 hBl
    have c5 := HQ8.out.cell 5 (v := .slice none 0 0) rfl
    have z5 := HQ8.out.free 5
    go_wp2_with fail
    clear c5 z5
    have HQ9 := Lib.hid (HQ8.out.set 5 (.slice (some ⟨B, 0, none⟩) 3 3)); have HP9 := Lib.hid (HP8.out.setFar (k := hb + 1) (i := 5) (v := .slice (some ⟨B, 0, none⟩) 3 3) HBQ.out); have HZ9 := Lib.hid (HZ8.out.other (a := ⟨hb + 1, 5, none⟩) (.slice (some ⟨B, 0, none⟩) 3 3) (by have := HLZ.out; show w.heap.size ≠ hb + 1; omega)); have HB9 := Lib.hid (HB8.out.setCell (p := ⟨hb + 1, 5, none⟩) (by have := HLZ.out; show w.heap.size ≤ hb + 1; omega) (.slice (some ⟨B, 0, none⟩) 3 3))
    generalize w8.setCell ⟨hb + 1, 5, none⟩ (.slice (some ⟨B, 0, none⟩) 3 3) = w9 at *
    clear HQ8 HP8 HZ8 HB8 HR8
    refine (take_qus0 _ _).mono ?_
    rintro e w10 ⟨rfl, B10⟩
    have HQ10 := Lib.hid (HQ9.out.below B10 (Nat.le_refl _)); have HP10 := Lib.hid (HP9.out.below B10 (Nat.le_refl _)); have HZ10 := Lib.hid (HZ9.out.below B10 (Nat.le_refl _)); have HB10 := Lib.hid (HB9.out.trans (B10.mono HB9.out.size)); clear B10 HQ9 HP9 HZ9 HB9
    have c6 := HQ10.out.cell 6 (v := .slice none 0 0) rfl
    have z6 := HQ10.out.free 6
    have HQ11 := Lib.hid (HQ10.out.set 6 (.slice (some ⟨w9.heap.size, 0, none⟩) 0 0)); have HZ11 := Lib.hid (HZ10.out.other (a := ⟨hb + 1, 6, none⟩) (.slice (some ⟨w9.heap.size, 0, none⟩) 0 0) (by have := HLZ.out; show w.heap.size ≠ hb + 1; omega))
    have d0 := HQ11.out.cell 0 (v := .int .i64 1) rfl
    have d1 := HQ11.out.cell 1 (v := .int .i64 0) rfl
    have d2 := HQ11.out.cell 2 (v := .slice none 0 0) rfl
    have d3 := HQ11.out.cell 3 (v := .int .i64 0) rfl
    have d4 := HQ11.out.cell 4 (v := .slice none 0 0) rfl
    have d5 := HQ11.out.cell 5 (v := .slice (some ⟨B, 0, none⟩) 3 3) rfl
    have d6 := HQ11.out.cell 6 (v := .slice (some ⟨w9.heap.size, 0, none⟩) 0 0) rfl
    have e0 := HZ11.out.cell 0 (v := .int .i64 0) rfl
    have y0 := HZ11.out.free 0
    have e1 := HZ11.out.cell 1 (v := .int .i64 0) rfl
    have y1 := HZ11.out.free 1
    have e2 := HZ11.out.cell 2 (v := .slice none 0 0) rfl
    have y2 := HZ11.out.free 2
    have e3 := HZ11.out.cell 3 (v := .int .i64 0) rfl
    have y3 := HZ11.out.free 3
    have e4 := HZ11.out.cell 4 (v := .slice none 0 0) rfl
    have y4 := HZ11.out.free 4
    have e5 := HZ11.out.cell 5 (v := .slice none 0 0) rfl
    have y5 := HZ11.out.free 5
    have e6 := HZ11.out.cell 6 (v := .slice none 0 0) rfl
    have y6 := HZ11.out.free 6
    go_wp2_with fail
    clear c6 z6 d0 e0 y0 d1 e1 y1 d2 e2 y2 d3 e3 y3 d4 e4 y4 d5 e5 y5 d6 e6 y6
    have HB12 := Lib.hid (show Below w.heap.size w ((((((((w10.setCell ⟨hb + 1, 6, none⟩ (.slice (some ⟨w9.heap.size, 0, none⟩) 0 0)).setCell ⟨w.heap.size, 0, none⟩ (.int .i64 1)).setCell ⟨w.heap.size, 1, none⟩ (.int .i64 0)).setCell ⟨w.heap.size, 2, none⟩ (.slice none 0 0)).setCell ⟨w.heap.size, 3, none⟩ (.int .i64 0)).setCell ⟨w.heap.size, 4, none⟩ (.slice none 0 0)).setCell ⟨w.heap.size, 5, none⟩ (.slice (some ⟨B, 0, none⟩) 3 3)).setCell ⟨w.heap.size, 6, none⟩ (.slice (some ⟨w9.heap.size, 0, none⟩) 0 0)) from (((((((HB10.out.setCell (p := ⟨hb + 1, 6, none⟩) (by have := HLZ.out; show w.heap.size ≤ hb + 1; omega) (.slice (some ⟨w9.heap.size, 0, none⟩) 0 0)).setCell (p := ⟨w.heap.size, 0, none⟩) (Nat.le_refl _) (.int .i64 1)).setCell (p := ⟨w.heap.size, 1, none⟩) (Nat.le_refl _) (.int .i64 0)).setCell (p := ⟨w.heap.size, 2, none⟩) (Nat.le_refl _) (.slice none 0 0)).setCell (p := ⟨w.heap.size, 3, none⟩) (Nat.le_refl _) (.int .i64 0)).setCell (p := ⟨w.heap.size, 4, none⟩) (Nat.le_refl _) (.slice none 0 0)).setCell (p := ⟨w.heap.size, 5, none⟩) (Nat.le_refl _) (.slice (some ⟨B, 0, none⟩) 3 3)).setCell (p := ⟨w.heap.size, 6, none⟩) (Nat.le_refl _) (.slice (some ⟨w9.heap.size, 0, none⟩) 0 0))
    have HP12 := Lib.hid ((((((((HP10.out.setFar (k := hb + 1) (i := 6) (v := .slice (some ⟨w9.heap.size, 0, none⟩) 0 0) HBQ.out).setFar (k := w.heap.size) (i := 0) (v := .int .i64 1) HBZ.out).setFar (k := w.heap.size) (i := 1) (v := .int .i64 0) HBZ.out).setFar (k := w.heap.size) (i := 2) (v := .slice none 0 0) HBZ.out).setFar (k := w.heap.size) (i := 3) (v := .int .i64 0) HBZ.out).setFar (k := w.heap.size) (i := 4) (v := .slice none 0 0) HBZ.out).setFar (k := w.heap.size) (i := 5) (v := .slice (some ⟨B, 0, none⟩) 3 3) HBZ.out).setFar (k := w.heap.size) (i := 6) (v := .slice (some ⟨w9.heap.size, 0, none⟩) 0 0) HBZ.out)
    have HZ12 := Lib.hid ((((((((HZ11.out).set 0 (.int .i64 1)).set 1 (.int .i64 0)).set 2 (.slice none 0 0)).set 3 (.int .i64 0)).set 4 (.slice none 0 0)).set 5 (.slice (some ⟨B, 0, none⟩) 3 3)).set 6 (.slice (some ⟨w9.heap.size, 0, none⟩) 0 0))
    generalize (((((((w10.setCell ⟨hb + 1, 6, none⟩ (.slice (some ⟨w9.heap.size, 0, none⟩) 0 0)).setCell ⟨w.heap.size, 0, none⟩ (.int .i64 1)).setCell ⟨w.heap.size, 1, none⟩ (.int .i64 0)).setCell ⟨w.heap.size, 2, none⟩ (.slice none 0 0)).setCell ⟨w.heap.size, 3, none⟩ (.int .i64 0)).setCell ⟨w.heap.size, 4, none⟩ (.slice none 0 0)).setCell ⟨w.heap.size, 5, none⟩ (.slice (some ⟨B, 0, none⟩) 3 3)).setCell ⟨w.heap.size, 6, none⟩ (.slice (some ⟨w9.heap.size, 0, none⟩) 0 0) = w12 at *
    have q0 := HZ12.out.cell 0 (v := .int .i64 1) rfl
    have q1 := HZ12.out.cell 1 (v := .int .i64 0) rfl
    have q2 := HZ12.out.cell 2 (v := .slice none 0 0) rfl
    have q3 := HZ12.out.cell 3 (v := .int .i64 0) rfl
    have q4 := HZ12.out.cell 4 (v := .slice none 0 0) rfl
    have q5 := HZ12.out.cell 5 (v := .slice (some ⟨B, 0, none⟩) 3 3) rfl
    have q6 := HZ12.out.cell 6 (v := .slice (some ⟨w9.heap.size, 0, none⟩) 0 0) rfl
    refine bodyPost_ret (v := .tuple #[.agg #[.int .i64 1, .int .i64 0, .slice none 0 0, .int .i64 0, .slice none 0 0, .slice (some ⟨B, 0, none⟩) 3 3, .slice (some ⟨w9.heap.size, 0, none⟩) 0 0], .int .i64 0]) (by simp [results, Tryz.results54, go_sem, q0, q1, q2, q3, q4, q5, q6]) rfl ⟨⟨B, w9.heap.size, rfl, HP12.out⟩, HB12.out⟩
  · have HI := Lib.hid (show ∀ i, i < 4 → IsI (f i) ∧ IsI (g i) from hi); clear hi
    have HBY := Lib.hid (show By w A c (2 :: ptsB f g 4) from hb); have HT := Lib.hid hT; clear hb hT
    rw [show ((2 : Int) + 2).toNat = 4 from rfl]
    have hln : (ptsB f g 4).length = 64 := ptsB_len f g 4
    obtain ⟨b, off, rfl, -, -⟩ := HBY.out.at_ (by simp)
    have hcp := HBY.out.cap
    simp only [List.length_cons, hln] at hcp
    have hmx := HBY.out.max
    unfold maxLen at hmx
    have hc1 : ¬ (c = 1) := by omega
    have HLN := Lib.hid hln; clear hln
    go_enter Tryz.func54, Tryz.ntmps54
    go_wp2_with fail
    have HZ := Lib.hid (Bx.new w #[.int .i64 0, .int .i64 0, .slice none 0 0, .int .i64 0, .slice none 0 0, .slice none 0 0, .slice none 0 0] 99)
    have HBY1 := Lib.hid (HBY.out.alloc (.cells #[.int .i64 0, .int .i64 0, .slice none 0 0, .int .i64 0, .slice none 0 0, .slice none 0 0, .slice none 0 0] 99)); have HT1 := Lib.hid (HT.out.alloc (.cells #[.int .i64 0, .int .i64 0, .slice none 0 0, .int .i64 0, .slice none 0 0, .slice none 0 0, .slice none 0 0] 99))
    have HB1 := Lib.hid (show Below w.heap.size w (w.alloc (.cells #[.int .i64 0, .int .i64 0, .slice none 0 0, .int .i64 0, .slice none 0 0, .slice none 0 0, .slice none 0 0] 99)) from below_al below_rf)
    generalize w.alloc (.cells #[.int .i64 0, .int .i64 0, .slice none 0 0, .int .i64 0, .slice none 0 0, .slice none 0 0, .slice none 0 0] 99) = w1 at *
    clear HBY HT
    have hcl := header_Classify12 (some ⟨b, off, none⟩) c 2 (by decide) (ptsB f g 4) w1 HT1.out HBY1.out (by rw [HLN.out]; rfl)
    have hpa := fun w0 => header_Parse12 (some ⟨b, off, none⟩) c 2 (by decide) (ptsB f g 4) w0
    rw [HLN.out] at hcl hpa
    have HCL := Lib.hid hcl; have HPA := Lib.hid hpa; clear hcl hpa
    refine HCL.out.mono ?_
    rintro e w2 ⟨rfl, B⟩
    have HBY2 := Lib.hid (HBY1.out.below B (Nat.le_refl _)); have HT2 := Lib.hid (HT1.out.below B (Nat.le_refl _)); have HZ2 := Lib.hid (HZ.out.below B (Nat.le_refl _)); have HB2 := Lib.hid (HB1.out.trans (B.mono HB1.out.size)); clear B HBY1 HT1 HZ HB1 HCL
    go_wp2_with fail
    refine (HPA.out _ HBY2.out).mono ?_
    rintro e w3 ⟨rfl, B⟩
    have HBY3 := Lib.hid (HBY2.out.below B (Nat.le_refl _)); have HZ3 := Lib.hid (HZ2.out.below B (Nat.le_refl _)); have HB3 := Lib.hid (HB2.out.trans (B.mono HB2.out.size)); clear B HBY2 HT2 HZ2 HB2 HPA
    go_wp2_with fail
    have HR := Lib.hid (show Rd (((w3.alloc (.cells #[.int .i64 2, .int .i64 0, .slice none 0 0, .int .i64 0] 28)).alloc (.cells #[.int .i64 2, .int .i64 0, .slice none 0 0, .int .i64 0, .slice none 0 0, .slice none 0 0, .slice none 0 0] 99)).alloc (.cells #[.slice (some ⟨b, off + 1, none⟩) 64 (c - 1)] 131)) (w3.heap.size + 1 + 1) (ptsB f g 4) from by
      have h1 := HBY3.out.tail
      rw [if_neg hc1] at h1
      refine ⟨some ⟨b, off + 1, none⟩, c - 1, ?_, ((h1.alloc _).alloc _).alloc _, fun a ha => by cases ha; obtain ⟨b', o', e, hlt, _⟩ := HBY3.out.at_ (by simp); cases e; show b < w3.heap.size + 1 + 1; omega⟩
      rw [HLN.out]; exact bx_new (by simp))
    have HH := Lib.hid (show Bx (((w3.alloc (.cells #[.int .i64 2, .int .i64 0, .slice none 0 0, .int .i64 0] 28)).alloc (.cells #[.int .i64 2, .int .i64 0, .slice none 0 0, .int .i64 0, .slice none 0 0, .slice none 0 0, .slice none 0 0] 99)).alloc (.cells #[.slice (some ⟨b, off + 1, none⟩) 64 (c - 1)] 131)) w3.heap.size #[.int .i64 2, .int .i64 0, .slice none 0 0, .int .i64 0] 28 from ((Bx.new _ _ _).alloc _).alloc _)
    have HQ := Lib.hid (show Bx (((w3.alloc (.cells #[.int .i64 2, .int .i64 0, .slice none 0 0, .int .i64 0] 28)).alloc (.cells #[.int .i64 2, .int .i64 0, .slice none 0 0, .int .i64 0, .slice none 0 0, .slice none 0 0, .slice none 0 0] 99)).alloc (.cells #[.slice (some ⟨b, off + 1, none⟩) 64 (c - 1)] 131)) (w3.heap.size + 1) #[.int .i64 2, .int .i64 0, .slice none 0 0, .int .i64 0, .slice none 0 0, .slice none 0 0, .slice none 0 0] 99 from (bx_new (by simp)).alloc _)
    have HZ6 := Lib.hid (show Bx (((w3.alloc (.cells #[.int .i64 2, .int .i64 0, .slice none 0 0, .int .i64 0] 28)).alloc (.cells #[.int .i64 2, .int .i64 0, .slice none 0 0, .int .i64 0, .slice none 0 0, .slice none 0 0, .slice none 0 0] 99)).alloc (.cells #[.slice (some ⟨b, off + 1, none⟩) 64 (c - 1)] 131)) w.heap.size #[.int .i64 0, .int .i64 0, .slice none 0 0, .int .i64 0, .slice none 0 0, .slice none 0 0, .slice none 0 0] 99 from ((HZ3.out.alloc _).alloc _).alloc _)
    have HB6 := Lib.hid (show Below w.heap.size w (((w3.alloc (.cells #[.int .i64 2, .int .i64 0, .slice none 0 0, .int .i64 0] 28)).alloc (.cells #[.int .i64 2, .int .i64 0, .slice none 0 0, .int .i64 0, .slice none 0 0, .slice none 0 0, .slice none 0 0] 99)).alloc (.cells #[.slice (some ⟨b, off + 1, none⟩) 64 (c - 1)] 131)) from ((HB3.out.alloc HB3.out.size _).alloc (by have := HB3.out.size; simp; omega) _).alloc (by have := HB3.out.size; simp; omega) _)
    have HLZ := Lib.hid (show w.heap.size < w3.heap.size from HZ3.out.lt)
    generalize ((w3.alloc (.cells #[.int .i64 2, .int .i64 0, .slice none 0 0, .int .i64 0] 28)).alloc (.cells #[.int .i64 2, .int .i64 0, .slice none 0 0, .int .i64 0, .slice none 0 0, .slice none 0 0, .slice none 0 0] 99)).alloc (.cells #[.slice (some ⟨b, off + 1, none⟩) 64 (c - 1)] 131) = w6 at *
    clear HBY3 HZ3 HB3
    generalize w3.heap.size = hb at *
    refine wp_loop_rounds 1 ?_
    rw [rounds_succ]
    have c0 := HH.out.cell 0 (v := .int .i64 2) rfl
    have c1 := HH.out.cell 1 (v := .int .i64 0) rfl
    have c2 := HH.out.cell 2 (v := .slice none 0 0) rfl
    have c3 := HH.out.cell 3 (v := .int .i64 0) rfl
    go_wp2_with fail
    clear c0 c1 c2 c3
    refine (codec_counts12 2 (by decide) _).mono ?_
    rintro e w7 ⟨rfl, B⟩
    have HR7 := Lib.hid (HR.out.below B (Nat.le_refl _)); have HQ7 := Lib.hid (HQ.out.below B (Nat.le_refl _)); have HZ7 := Lib.hid (HZ6.out.below B (Nat.le_refl _)); have HB7 := Lib.hid (HB6.out.trans (B.mono HB6.out.size)); clear B HR HQ HZ6 HB6 HH
    rw [show (2 : Int) + 2 = 4 from rfl]
    go_wp2_with fail
    refine (take_pts (hb + 1 + 1) 4 (by decide) f g HI.out [] _ (by rw [List.append_nil]; exact HR7.out)).mono ?_
    rintro e w8 ⟨⟨B, rfl, hBl, hP⟩, hR, g8⟩
    have HP8 := Lib.hid hP; have HR8 := Lib.hid hR; have HQ8 := Lib.hid (bx_gr HQ7.out (by omega) g8); have HZ8 := Lib.hid (bx_gr HZ7.out (by have := HLZ.out; omega) g8); have HB8 := Lib.hid (below_gr HB7.out (by have := HLZ.out; omega) HB7.out.size g8)
    have HBQ := Lib.hid (show B ≠ hb + 1 from by have := HQ7.out.lt; omega)
    have HBZ := Lib.hid (show B ≠ w.heap.size from by have := HZ7.out.lt; omega)
    clear hP hR g8 HR7 HQ7 HZ7 HB7 hBl
    have c5 := HQ8.out.cell 5 (v := .slice none 0 0) rfl
    have z5 := HQ8.out.free 5
    go_wp2_with fail
    clear c5 z5
    have HQ9 := Lib.hid (HQ8.out.set 5 (.slice (some ⟨B, 0, none⟩) 4 4)); have HP9 := Lib.hid (HP8.out.setFar (k := hb + 1) (i := 5) (v := .slice (some ⟨B, 0, none⟩) 4 4) HBQ.out); have HZ9 := Lib.hid (HZ8.out.other (a := ⟨hb + 1, 5, none⟩) (.slice (some ⟨B, 0, none⟩) 4 4) (by have := HLZ.out; show w.heap.size ≠ hb + 1; omega)); have HB9 := Lib.hid (HB8.out.setCell (p := ⟨hb + 1, 5, none⟩) (by have := HLZ.out; show w.heap.size ≤ hb + 1; omega) (.slice (some ⟨B, 0, none⟩) 4 4))
    generalize w8.setCell ⟨hb + 1, 5, none⟩ (.slice (some ⟨B, 0, none⟩) 4 4) = w9 at *
    clear HQ8 HP8 HZ8 HB8 HR8
    refine (take_qus0 _ _).mono ?_
    rintro e w10 ⟨rfl, B10⟩
    have HQ10 := Lib.hid (HQ9.out.below B10 (Nat.le_refl _)); have HP10 := Lib.hid (HP9.out.below B10 (Nat.le_refl _)); have HZ10 := Lib.hid (HZ9.out.below B10 (Nat.le_refl _)); have HB10 := Lib.hid (HB9.out.trans (B10.mono HB9.out.size)); clear B10 HQ9 HP9 HZ9 HB9
    have c6 := HQ10.out.cell 6 (v := .slice none 0 0) rfl
    have z6 := HQ10.out.free 6
    have HQ11 := Lib.hid (HQ10.out.set 6 (.slice (some ⟨w9.heap.size, 0, none⟩) 0 0)); have HZ11 := Lib.hid (HZ10.out.other (a := ⟨hb + 1, 6, none⟩) (.slice (some ⟨w9.heap.size, 0, none⟩) 0 0) (by have := HLZ.out; show w.heap.size ≠ hb + 1; omega))
    have d0 := HQ11.out.cell 0 (v := .int .i64 2) rfl
    have d1 := HQ11.out.cell 1 (v := .int .i64 0) rfl
    have d2 := HQ11.out.cell 2 (v := .slice none 0 0) rfl
    have d3 := HQ11.out.cell 3 (v := .int .i64 0) rfl
    have d4 := HQ11.out.cell 4 (v := .slice none 0 0) rfl
    have d5 := HQ11.out.cell 5 (v := .slice (some ⟨B, 0, none⟩) 4 4) rfl
    have d6 := HQ11.out.cell 6 (v := .slice (some ⟨w9.heap.size, 0, none⟩) 0 0) rfl
    have e0 := HZ11.out.cell 0 (v := .int .i64 0) rfl
    have y0 := HZ11.out.free 0
    have e1 := HZ11.out.cell 1 (v := .int .i64 0) rfl
    have y1 := HZ11.out.free 1
    have e2 := HZ11.out.cell 2 (v := .slice none 0 0) rfl
    have y2 := HZ11.out.free 2
    have e3 := HZ11.out.cell 3 (v := .int .i64 0) rfl
    have y3 := HZ11.out.free 3
    have e4 := HZ11.out.cell 4 (v := .slice none 0 0) rfl
    have y4 := HZ11.out.free 4
    have e5 := HZ11.out.cell 5 (v := .slice none 0 0) rfl
    have y5 := HZ11.out.free 5
    have e6 := HZ11.out.cell 6 (v := .slice none 0 0) rfl
    have y6 := HZ11.out.free 6
    go_wp2_with fail
    clear c6 z6 d0 e0 y0 d1 e1 y1 d2 e2 y2 d3 e3 y3 d4 e4 y4 d5 e5 y5 d6 e6 y6
    have HB12 := Lib.hid (show Below w.heap.size w ((((((((w10.setCell ⟨hb + 1, 6, none⟩ (.slice (some ⟨w9.heap.size, 0, none⟩) 0 0)).setCell ⟨w.heap.size, 0, none⟩ (.int .i64 2)).setCell ⟨w.heap.size, 1, none⟩ (.int .i64 0)).setCell ⟨w.heap.size, 2, none⟩ (.slice none 0 0)).setCell ⟨w.heap.size, 3, none⟩ (.int .i64 0)).setCell ⟨w.heap.size, 4, none⟩ (.slice none 0 0)).setCell ⟨w.heap.size, 5, none⟩ (.slice (some ⟨B, 0, none⟩) 4 4)).setCell ⟨w.heap.size, 6, none⟩ (.slice (some ⟨w9.heap.size, 0, none⟩) 0 0)) from (((((((HB10.out.setCell (p := ⟨hb + 1, 6, none⟩) (by have := HLZ.out; show w.heap.size ≤ hb + 1; omega) (.slice (some ⟨w9.heap.size, 0, none⟩) 0 0)).setCell (p := ⟨w.heap.size, 0, none⟩) (Nat.le_refl _) (.int .i64 2)).setCell (p := ⟨w.heap.size, 1, none⟩) (Nat.le_refl _) (.int .i64 0)).setCell (p := ⟨w.heap.size, 2, none⟩) (Nat.le_refl _) (.slice none 0 0)).setCell (p := ⟨w.heap.size, 3, none⟩) (Nat.le_refl _) (.int .i64 0)).setCell (p := ⟨w.heap.size, 4, none⟩) (Nat.le_refl _) (.slice none 0 0)).setCell (p := ⟨w.heap.size, 5, none⟩) (Nat.le_refl _) (.slice (some ⟨B, 0, none⟩) 4 4)).setCell (p := ⟨w.heap.size, 6, none⟩) (Nat.le_refl _) (.slice (some ⟨w9.heap.size, 0, none⟩) 0 0))
    have HP12 := Lib.hid ((((((((HP10.out.setFar (k := hb + 1) (i := 6) (v := .slice (some ⟨w9.heap.size, 0, none⟩) 0 0) HBQ.out).setFar (k := w.heap.size) (i := 0) (v := .int .i64 2) HBZ.out).setFar (k := w.heap.size) (i := 1) (v := .int .i64 0) HBZ.out).setFar (k := w.heap.size) (i := 2) (v := .slice none 0 0) HBZ.out).setFar (k := w.heap.size) (i := 3) (v := .int .i64 0) HBZ.out).setFar (k := w.heap.size) (i := 4) (v := .slice none 0 0) HBZ.out).setFar (k := w.heap.size) (i := 5) (v := .slice (some ⟨B, 0, none⟩) 4 4) HBZ.out).setFar (k := w.heap.size) (i := 6) (v := .slice (some ⟨w9.heap.size, 0, none⟩) 0 0) HBZ.out)
    have HZ12 := Lib.hid ((((((((HZ11.out).set 0 (.int .i64 2)).set 1 (.int .i64 0)).set 2 (.slice none 0 0)).set 3 (.int .i64 0)).set 4 (.slice none 0 0)).set 5 (.slice (some ⟨B, 0, none⟩) 4 4)).set 6 (.slice (some ⟨w9.heap.size, 0, none⟩) 0 0))
    generalize (((((((w10.setCell ⟨hb + 1, 6, none⟩ (.slice (some ⟨w9.heap.size, 0, none⟩) 0 0)).setCell ⟨w.heap.size, 0, none⟩ (.int .i64 2)).setCell ⟨w.heap.size, 1, none⟩ (.int .i64 0)).setCell ⟨w.heap.size, 2, none⟩ (.slice none 0 0)).setCell ⟨w.heap.size, 3, none⟩ (.int .i64 0)).setCell ⟨w.heap.size, 4, none⟩ (.slice none 0 0)).setCell ⟨w.heap.size, 5, none⟩ (.slice (some ⟨B, 0, none⟩) 4 4)).setCell ⟨w.heap.size, 6, none⟩ (.slice (some ⟨w9.heap.size, 0, none⟩) 0 0) = w12 at *
    have q0 := HZ12.out.cell 0 (v := .int .i64 2) rfl
    have q1 := HZ12.out.cell 1 (v := .int .i64 0) rfl
    have q2 := HZ12.out.cell 2 (v := .slice none 0 0) rfl
    have q3 := HZ12.out.cell 3 (v := .int .i64 0) rfl
    have q4 := HZ12.out.cell 4 (v := .slice none 0 0) rfl
    have q5 := HZ12.out.cell 5 (v := .slice (some ⟨B, 0, none⟩) 4 4) rfl
    have q6 := HZ12.out.cell 6 (v := .slice (some ⟨w9.heap.size, 0, none⟩) 0 0) rfl
    refine bodyPost_ret (v := .tuple #[.agg #[.int .i64 2, .int .i64 0, .slice none 0 0, .int .i64 0, .slice none 0 0, .slice (some ⟨B, 0, none⟩) 4 4, .slice (some ⟨w9.heap.size, 0, none⟩) 0 0], .int .i64 0]) (by simp [results, Tryz.results54, go_sem, q0, q1, q2, q3, q4, q5, q6]) rfl ⟨⟨B, w9.heap.size, rfl, HP12.out⟩, HB12.out⟩
end Go.Proofs.YtjdiilkljgljkaaGreatDoor
namespace Go.Proofs.YtjdiilkljgljkaaGreatDoor
set_option linter.unusedVariables false
set_option linter.unusedSimpArgs false
open Go.RowKit Wd

set_option maxHeartbeats 4000000 in
set_option maxRecDepth 100000 in
theorem traced_idle (pe po : Nat) (w : World) (hc : w.cell? ⟨pe, 0, none⟩ = some (.int .i64 0)) (u : FrameMode) :
    CallsD Tryz.prog 53 #[.pointer (some ⟨pe, 0, none⟩), .pointer (some ⟨po, 0, none⟩)] u w fun e u' w' => u' = u ∧ (e = .returned (.tuple #[]) ∧ w' = w) := by
  go_enter_d Tryz.func53, Tryz.ntmps53
  go_wp2_with fail
  go_end0
  exact ⟨rfl, rfl⟩
set_option maxHeartbeats 4000000 in
set_option maxRecDepth 100000 in
theorem serve_Traced1 (A : Option Addr) (c : Nat) (f g : Nat → Int) (w : World) (hT : TabM w) (hF : TabF w) (hi : ∀ i, i < 3 → IsI (f i) ∧ IsI (g i)) (hb : By w A c (1 :: ptsB f g 3)) :
    Calls Tryz.prog 30 #[.pointer none, .slice A 49 c] w fun e w' => (∃ A' c', e = .returned (.slice A' 2 c') ∧ By w' A' c' [0, sg (det (f 0) (g 0) (f 1) (g 1) (f 2) (g 2)) + 1]) ∧ Below w.heap.size w w' := by
  have HB0 := Lib.hid (Below.refl w.heap.size w); have FT := Lib.hid hT; have FF := Lib.hid hF; have FB := Lib.hid hb; have HI := Lib.hid hi; have HT0 := FT; clear hT hF hb hi
  have hmf : ∀ (fn : Fn) (first cap : Array Value) (w : World), (Instr.makeFunc fn first cap).run Tryz.prog w = .ok (.func fn first cap) w := fun _ _ _ _ => rfl
  go_enter_defers Tryz.func30, Tryz.ntmps30
  go_wp2_with fail
  have B : Below w.heap.size w ((w.alloc (.cells #[.slice none 0 0] 24)).alloc (.cells #[.int .i64 0] 67)) := ((HB0.out.alloc HB0.out.size _).alloc (HB0.out.alloc HB0.out.size _).size _)
  have C : Below w.heap.size w ((w.alloc (.cells #[.slice none 0 0] 24)).alloc (.cells #[.int .i64 0] 67)) := (((Below.refl w.heap.size w).alloc (Nat.le_refl _) _).alloc (by simp; try omega) _)
  have X0 : Bx ((w.alloc (.cells #[.slice none 0 0] 24)).alloc (.cells #[.int .i64 0] 67)) (w.heap.size) #[.slice none 0 0] 24 := by simpa using ((Bx.new w #[.slice none 0 0] 24).alloc _)
  have X1 : Bx ((w.alloc (.cells #[.slice none 0 0] 24)).alloc (.cells #[.int .i64 0] 67)) (w.heap.size + 1) #[.int .i64 0] 67 := by simpa using (Bx.new (w.alloc (.cells #[.slice none 0 0] 24)) #[.int .i64 0] 67)
  have FT_1 := Lib.hid (FT.out.below C (Nat.le_refl _))
  have FF_1 := Lib.hid (FF.out.below C (Nat.le_refl _))
  have FB_1 := Lib.hid (FB.out.below C (Nat.le_refl _))
  have HB1 := Lib.hid B
  have FO_1 := Lib.hid X0
  have FE_1 := Lib.hid X1
  clear B C X0 X1 HB0 FT FF FB
  generalize ((w.alloc (.cells #[.slice none 0 0] 24)).alloc (.cells #[.int .i64 0] 67)) = w1 at *
  skip
  refine (codec_Decode12 1 (by decide) A c f g HI.out _ FF_1.out FB_1.out).mono ?_
  rintro e w2 ⟨⟨pb, qb, rfl, hP⟩, B⟩
  have HB2 := Lib.hid (HB1.out.trans (B.mono HB1.out.size))
  have FT_2 := Lib.hid (FT_1.out.below B (Nat.le_refl _))
  have FF_2 := Lib.hid (FF_1.out.below B (Nat.le_refl _))
  have FB_2 := Lib.hid (FB_1.out.below B (Nat.le_refl _))
  have FO_2 := Lib.hid (FO_1.out.below B (Nat.le_refl _))
  have FE_2 := Lib.hid (FE_1.out.below B (Nat.le_refl _))
  have FP_2 := Lib.hid hP
  clear B hP HB1 FT_1 FF_1 FB_1 FO_1 FE_1
  have e0 := FE_2.out.cell 0 (v := .int .i64 0) rfl; have ez := FE_2.out.free 0
  have d0 := (FE_2.out.alloc (.cells #[.int .i64 1, .int .i64 0, .slice none 0 0, .int .i64 0, .slice none 0 0, .slice (some ⟨pb, 0, none⟩) 3 3, .slice (some ⟨qb, 0, none⟩) 0 0] 99)).cell 0 (v := .int .i64 0) rfl; have dz := (FE_2.out.alloc (.cells #[.int .i64 1, .int .i64 0, .slice none 0 0, .int .i64 0, .slice none 0 0, .slice (some ⟨pb, 0, none⟩) 3 3, .slice (some ⟨qb, 0, none⟩) 0 0] 99)).free 0
  go_upto_region 4 with (fail)
  clear e0 ez d0 dz
  have HPE := Lib.hid (show pb ≠ w.heap.size + 1 from fun e => by
    have h1 := FP_2.out.y0 (by decide)
    have h2 := FE_2.out
    rw [← e] at h2
    unfold Bx at h2
    simp [World.cell?, h2] at h1)
  have HR3 := Lib.hid (show Bx ((w2.alloc (.cells #[.int .i64 1, .int .i64 0, .slice none 0 0, .int .i64 0, .slice none 0 0, .slice (some ⟨pb, 0, none⟩) 3 3, .slice (some ⟨qb, 0, none⟩) 0 0] 99)).setCell ⟨w.heap.size + 1, 0, none⟩ (.int .i64 0)) w2.heap.size #[.int .i64 1, .int .i64 0, .slice none 0 0, .int .i64 0, .slice none 0 0, .slice (some ⟨pb, 0, none⟩) 3 3, .slice (some ⟨qb, 0, none⟩) 0 0] 99 from (Bx.new _ _ _).other _ (by have := FE_2.out.lt; show w2.heap.size ≠ w.heap.size + 1; omega))
  have HE3 := Lib.hid (show Bx ((w2.alloc (.cells #[.int .i64 1, .int .i64 0, .slice none 0 0, .int .i64 0, .slice none 0 0, .slice (some ⟨pb, 0, none⟩) 3 3, .slice (some ⟨qb, 0, none⟩) 0 0] 99)).setCell ⟨w.heap.size + 1, 0, none⟩ (.int .i64 0)) (w.heap.size + 1) #[.int .i64 0] 67 from (FE_2.out.alloc _).set 0 _)
  have HO3 := Lib.hid (show Bx ((w2.alloc (.cells #[.int .i64 1, .int .i64 0, .slice none 0 0, .int .i64 0, .slice none 0 0, .slice (some ⟨pb, 0, none⟩) 3 3, .slice (some ⟨qb, 0, none⟩) 0 0] 99)).setCell ⟨w.heap.size + 1, 0, none⟩ (.int .i64 0)) w.heap.size #[.slice none 0 0] 24 from (FO_2.out.alloc _).other _ (by show w.heap.size ≠ w.heap.size + 1; omega))
  have HP3 := Lib.hid (show Pts ((w2.alloc (.cells #[.int .i64 1, .int .i64 0, .slice none 0 0, .int .i64 0, .slice none 0 0, .slice (some ⟨pb, 0, none⟩) 3 3, .slice (some ⟨qb, 0, none⟩) 0 0] 99)).setCell ⟨w.heap.size + 1, 0, none⟩ (.int .i64 0)) (some ⟨pb, 0, none⟩) 3 3 f g from (FP_2.out.alloc _).setFar HPE.out)
  have HB3 := Lib.hid (show Below w.heap.size w ((w2.alloc (.cells #[.int .i64 1, .int .i64 0, .slice none 0 0, .int .i64 0, .slice none 0 0, .slice (some ⟨pb, 0, none⟩) 3 3, .slice (some ⟨qb, 0, none⟩) 0 0] 99)).setCell ⟨w.heap.size + 1, 0, none⟩ (.int .i64 0)) from (HB2.out.alloc HB2.out.size _).setCell (p := ⟨w.heap.size + 1, 0, none⟩) (by show w.heap.size ≤ w.heap.size + 1; omega) _)
  have HT3 := Lib.hid (HT0.out.below HB3.out (Nat.le_refl _))
  generalize ((w2.alloc (.cells #[.int .i64 1, .int .i64 0, .slice none 0 0, .int .i64 0, .slice none 0 0, .slice (some ⟨pb, 0, none⟩) 3 3, .slice (some ⟨qb, 0, none⟩) 0 0] 99)).setCell ⟨w.heap.size + 1, 0, none⟩ (.int .i64 0)) = w3 at *
  generalize w2.heap.size = rb at *
  clear FE_2 FO_2 FP_2 HB2 FT_2 HPE
  have vE0 := HE3.out.cell 0 (v := .int .i64 0) rfl
  have vR0 := HR3.out.cell 0 (v := .int .i64 1) rfl
  have vR1 := HR3.out.cell 1 (v := .int .i64 0) rfl
  have vR2 := HR3.out.cell 2 (v := .slice none 0 0) rfl
  have vR3 := HR3.out.cell 3 (v := .int .i64 0) rfl
  have vR4 := HR3.out.cell 4 (v := .slice none 0 0) rfl
  have vR5 := HR3.out.cell 5 (v := .slice (some ⟨pb, 0, none⟩) 3 3) rfl
  have vR6 := HR3.out.cell 6 (v := .slice (some ⟨qb, 0, none⟩) 0 0) rfl
  go_wp2_with fail
  refine (serve_Handle1 (some ⟨qb, 0, none⟩) 0 pb 3 f g _ HT3.out HP3.out).mono ?_
  rintro e w4 ⟨rfl, B⟩
  clear vE0 vR0 vR1 vR2 vR3 vR4 vR5 vR6
  have HB4 := Lib.hid (HB3.out.trans (B.mono HB3.out.size))
  have FT_4 := Lib.hid (HT3.out.below B (Nat.le_refl _))
  have FR_4 := Lib.hid (HR3.out.below B (Nat.le_refl _))
  have FE_4 := Lib.hid (HE3.out.below B (Nat.le_refl _))
  have FO_4 := Lib.hid (HO3.out.below B (Nat.le_refl _))
  have FP_4 := Lib.hid (HP3.out.below B (Nat.le_refl _))
  clear B  HB3 HT3 HR3 HE3 HO3 HP3
  have e0 := FE_4.out.cell 0 (v := .int .i64 0) rfl; have ez := FE_4.out.free 0
  have d0 := (FE_4.out.alloc (.cells #[.int .i64 (sg (det (f 0) (g 0) (f 1) (g 1) (f 2) (g 2)) + 1), .int .i64 0, .slice none 0 0] 102)).cell 0 (v := .int .i64 0) rfl; have dz := (FE_4.out.alloc (.cells #[.int .i64 (sg (det (f 0) (g 0) (f 1) (g 1) (f 2) (g 2)) + 1), .int .i64 0, .slice none 0 0] 102)).free 0
  go_upto_region 7 with (fail)
  clear e0 ez d0 dz
  have HRE := Lib.hid (show rb ≠ w.heap.size + 1 from fun e => by
    have h1 := FR_4.out
    have h2 := FE_4.out
    rw [← e] at h2
    unfold Bx at h1 h2
    rw [h1] at h2
    simp at h2)
  have HR5 := Lib.hid (show Bx ((w4.alloc (.cells #[.int .i64 (sg (det (f 0) (g 0) (f 1) (g 1) (f 2) (g 2)) + 1), .int .i64 0, .slice none 0 0] 102)).setCell ⟨w.heap.size + 1, 0, none⟩ (.int .i64 0)) rb #[.int .i64 1, .int .i64 0, .slice none 0 0, .int .i64 0, .slice none 0 0, .slice (some ⟨pb, 0, none⟩) 3 3, .slice (some ⟨qb, 0, none⟩) 0 0] 99 from (FR_4.out.alloc _).other _ HRE.out)
  have HA5 := Lib.hid (show Bx ((w4.alloc (.cells #[.int .i64 (sg (det (f 0) (g 0) (f 1) (g 1) (f 2) (g 2)) + 1), .int .i64 0, .slice none 0 0] 102)).setCell ⟨w.heap.size + 1, 0, none⟩ (.int .i64 0)) w4.heap.size #[.int .i64 (sg (det (f 0) (g 0) (f 1) (g 1) (f 2) (g 2)) + 1), .int .i64 0, .slice none 0 0] 102 from (Bx.new _ _ _).other _ (by have := FE_4.out.lt; show w4.heap.size ≠ w.heap.size + 1; omega))
  have HE5 := Lib.hid (show Bx ((w4.alloc (.cells #[.int .i64 (sg (det (f 0) (g 0) (f 1) (g 1) (f 2) (g 2)) + 1), .int .i64 0, .slice none 0 0] 102)).setCell ⟨w.heap.size + 1, 0, none⟩ (.int .i64 0)) (w.heap.size + 1) #[.int .i64 0] 67 from (FE_4.out.alloc _).set 0 _)
  have HO5 := Lib.hid (show Bx ((w4.alloc (.cells #[.int .i64 (sg (det (f 0) (g 0) (f 1) (g 1) (f 2) (g 2)) + 1), .int .i64 0, .slice none 0 0] 102)).setCell ⟨w.heap.size + 1, 0, none⟩ (.int .i64 0)) w.heap.size #[.slice none 0 0] 24 from (FO_4.out.alloc _).other _ (by show w.heap.size ≠ w.heap.size + 1; omega))
  have HB5 := Lib.hid (show Below w.heap.size w ((w4.alloc (.cells #[.int .i64 (sg (det (f 0) (g 0) (f 1) (g 1) (f 2) (g 2)) + 1), .int .i64 0, .slice none 0 0] 102)).setCell ⟨w.heap.size + 1, 0, none⟩ (.int .i64 0)) from (HB4.out.alloc HB4.out.size _).setCell (p := ⟨w.heap.size + 1, 0, none⟩) (by show w.heap.size ≤ w.heap.size + 1; omega) _)
  generalize ((w4.alloc (.cells #[.int .i64 (sg (det (f 0) (g 0) (f 1) (g 1) (f 2) (g 2)) + 1), .int .i64 0, .slice none 0 0] 102)).setCell ⟨w.heap.size + 1, 0, none⟩ (.int .i64 0)) = w5 at *
  generalize w4.heap.size = ab at *
  clear FE_4 FO_4 FP_4 HB4 FT_4 FR_4 HRE
  have HX := Lib.hid (show sg (det (f 0) (g 0) (f 1) (g 1) (f 2) (g 2)) + 1 = 0 ∨ sg (det (f 0) (g 0) (f 1) (g 1) (f 2) (g 2)) + 1 = 1 ∨ sg (det (f 0) (g 0) (f 1) (g 1) (f 2) (g 2)) + 1 = 2 from by have := sg_range (det (f 0) (g 0) (f 1) (g 1) (f 2) (g 2)); omega)
  have vE0 := HE5.out.cell 0 (v := .int .i64 0) rfl
  have vR0 := HR5.out.cell 0 (v := .int .i64 1) rfl
  have vR1 := HR5.out.cell 1 (v := .int .i64 0) rfl
  have vR2 := HR5.out.cell 2 (v := .slice none 0 0) rfl
  have vR3 := HR5.out.cell 3 (v := .int .i64 0) rfl
  have vR4 := HR5.out.cell 4 (v := .slice none 0 0) rfl
  have vR5 := HR5.out.cell 5 (v := .slice (some ⟨pb, 0, none⟩) 3 3) rfl
  have vR6 := HR5.out.cell 6 (v := .slice (some ⟨qb, 0, none⟩) 0 0) rfl
  have vA0 := HA5.out.cell 0 (v := .int .i64 (sg (det (f 0) (g 0) (f 1) (g 1) (f 2) (g 2)) + 1)) rfl
  have vA1 := HA5.out.cell 1 (v := .int .i64 0) rfl
  have vA2 := HA5.out.cell 2 (v := .slice none 0 0) rfl
  go_wp2_with fail
  refine (codec_Respond12 1 (by decide) _ HX.out _).mono ?_
  rintro e w6 ⟨⟨A', c', rfl, hby⟩, B⟩
  clear vE0 vR0 vR1 vR2 vR3 vR4 vR5 vR6 vA0 vA1 vA2
  have HB6 := Lib.hid (HB5.out.trans (B.mono HB5.out.size))
  have FR_6 := Lib.hid (HR5.out.below B (Nat.le_refl _))
  have FA_6 := Lib.hid (HA5.out.below B (Nat.le_refl _))
  have FE_6 := Lib.hid (HE5.out.below B (Nat.le_refl _))
  have FO_6 := Lib.hid (HO5.out.below B (Nat.le_refl _))
  have FY_6 := Lib.hid hby
  clear B hby HB5 HR5 HA5 HE5 HO5
  have e0 := FE_6.out.cell 0 (v := .int .i64 0) rfl; have ez := FE_6.out.free 0; have o0 := FO_6.out.cell 0 (v := .slice none 0 0) rfl; have oz := FO_6.out.free 0
  go_wp2_with fail
  clear e0 ez o0 oz
  have hne : w.heap.size ≠ w.heap.size + 1 := by omega
  have HO6 := Lib.hid (FO_6.out.set 0 (.slice A' 2 c'))
  have HE6 := Lib.hid (FE_6.out.other (a := ⟨w.heap.size, 0, none⟩) (.slice A' 2 c') (by show w.heap.size + 1 ≠ w.heap.size; omega))
  have HY6 := Lib.hid (by_keep FY_6.out FO_6.out (by simp) (gr_set _ _ 0 (.slice A' 2 c')))
  have HO7 := Lib.hid (HO6.out.other (a := ⟨w.heap.size + 1, 0, none⟩) (.int .i64 0) hne)
  have HE7 := Lib.hid (HE6.out.set 0 (.int .i64 0))
  have HY7 := Lib.hid (by_keep HY6.out HE6.out (by simp) (gr_set _ _ 0 (.int .i64 0)))
  have HO8 := Lib.hid (HO7.out.set 0 (.slice A' 2 c'))
  have HE8 := Lib.hid (HE7.out.other (a := ⟨w.heap.size, 0, none⟩) (.slice A' 2 c') (by show w.heap.size + 1 ≠ w.heap.size; omega))
  have HY8 := Lib.hid (by_keep HY7.out HO7.out (by simp) (gr_set _ _ 0 (.slice A' 2 c')))
  have HB8 := Lib.hid (((HB6.out.setCell (p := ⟨w.heap.size, 0, none⟩) (Nat.le_refl _) (.slice A' 2 c')).setCell (p := ⟨w.heap.size + 1, 0, none⟩) (by show w.heap.size ≤ w.heap.size + 1; omega) (.int .i64 0)).setCell (p := ⟨w.heap.size, 0, none⟩) (Nat.le_refl _) (.slice A' 2 c'))
  generalize (((w6.setCell ⟨w.heap.size, 0, none⟩ (.slice A' 2 c')).setCell ⟨w.heap.size + 1, 0, none⟩ (.int .i64 0)).setCell ⟨w.heap.size, 0, none⟩ (.slice A' 2 c')) = w8 at *
  refine leaves_cons (f := 53) (args := #[.pointer (some ⟨w.heap.size + 1, 0, none⟩), .pointer (some ⟨w.heap.size, 0, none⟩)]) (by simp) (by simp [go_sem]) ?_
  refine (traced_idle _ _ _ (HE8.out.cell 0 rfl) _).mono ?_
  rintro e u' w'' ⟨rfl, rfl, rfl⟩
  have q := HO8.out.cell 0 (v := .slice A' 2 c') rfl
  exact ⟨.slice A' 2 c', by simp [results, Tryz.results30, go_sem, q], ⟨A', c', rfl, HY8.out⟩, HB8.out⟩
end Go.Proofs.YtjdiilkljgljkaaGreatDoor
namespace Go.Proofs.YtjdiilkljgljkaaGreatDoor
set_option linter.unusedVariables false
set_option linter.unusedSimpArgs false
open Go.RowKit Wd

theorem wp_scope_once {P : Program} {a : Act} {w : World} {Q : Exit → Act → World → Prop} {c rest : Code} (l : Nat) (hf : findLabel c l = some rest)
    (first : c.wp P (Exit.jump l (fun a' w' => rest.wp P (Exit.jump l (fun _ _ => False) Q) a' w') Q) a w) : (Code.scope c).wp P Q a w := by
  refine wp_scope_jumps l _ (fun _ _ => 0) hf first fun a w h => ?_
  intro b k cs
  obtain ⟨e, a', w', hq, harr⟩ := h b k cs
  refine ⟨e, a', w', ?_, harr⟩
  cases e <;> first | exact hq | exact ⟨hq.1, hq.2.elim⟩
theorem jump_ret {l : Nat} {J : Act → World → Prop} {Q : Exit → Act → World → Prop} {a : Act} {w : World} : Exit.jump l J Q .ret a w = Q .ret a w := rfl
set_option maxHeartbeats 4000000 in
set_option maxRecDepth 100000 in
theorem header_ParseNil (w : World) :
    Calls Tryz.prog 78 #[.slice none 0 0] w fun e w' => e = .returned (.tuple #[.agg #[.int .i64 0, .int .i64 0, .slice none 0 0, .int .i64 0], .int .i64 0, .int .i64 4]) ∧ Below w.heap.size w w' := by
  go_enter Tryz.func78, Tryz.ntmps78
  go_wp2_with fail
  refine wp_scope_once 0 rfl ?_
  go_wp2_with fail
  refine wp_goto ?_
  refine ⟨rfl, ?_⟩
  go_wp2_with fail
  rw [jump_ret]
  refine bodyPost_ret (v := .tuple #[.agg #[.int .i64 0, .int .i64 0, .slice none 0 0, .int .i64 0], .int .i64 0, .int .i64 4]) (by simp [results, Tryz.results78, go_sem]) rfl ⟨rfl, ?_⟩
  repeat (first | exact below_rf | (refine below_st ?_ ?_; (focus (first | (simp; done) | omega | (simp <;> omega)))) | refine below_al ?_)
set_option maxHeartbeats 4000000 in
set_option maxRecDepth 100000 in
theorem header_ClassifyNil (w : World) :
    Calls Tryz.prog 77 #[.slice none 0 0] w fun e w' => e = .returned (.int .i64 4) ∧ Below w.heap.size w w' := by
  go_enter Tryz.func77, Tryz.ntmps77
  go_wp2_with fail
  refine (header_ParseNil _).mono ?_
  rintro e w1 ⟨rfl, B⟩
  have HB := Lib.hid B; clear B
  go_wp2_with fail
  go_ret
  exact ⟨rfl, HB.out.alloc HB.out.size _⟩
set_option maxHeartbeats 4000000 in
set_option maxRecDepth 100000 in
theorem codec_DecodeNil (w : World) :
    Calls Tryz.prog 54 #[.slice none 0 0] w fun e w' => e = .returned (.tuple #[.agg #[.int .i64 0, .int .i64 0, .slice none 0 0, .int .i64 0, .slice none 0 0, .slice none 0 0, .slice none 0 0], .int .i64 4]) ∧ Below w.heap.size w w' := by
  go_enter Tryz.func54, Tryz.ntmps54
  go_wp2_with fail
  have HZ := Lib.hid (Bx.new w #[.int .i64 0, .int .i64 0, .slice none 0 0, .int .i64 0, .slice none 0 0, .slice none 0 0, .slice none 0 0] 99)
  have HB1 := Lib.hid (show Below w.heap.size w (w.alloc (.cells #[.int .i64 0, .int .i64 0, .slice none 0 0, .int .i64 0, .slice none 0 0, .slice none 0 0, .slice none 0 0] 99)) from below_al below_rf)
  generalize w.alloc (.cells #[.int .i64 0, .int .i64 0, .slice none 0 0, .int .i64 0, .slice none 0 0, .slice none 0 0, .slice none 0 0] 99) = w1 at *
  refine (header_ClassifyNil _).mono ?_
  rintro e w2 ⟨rfl, B⟩
  have HZ2 := Lib.hid (HZ.out.below B (Nat.le_refl _)); have HB2 := Lib.hid (HB1.out.trans (B.mono HB1.out.size)); clear B HZ HB1
  have c0 := HZ2.out.cell 0 (v := .int .i64 0) rfl
  have z0 := HZ2.out.free 0
  have c1 := HZ2.out.cell 1 (v := .int .i64 0) rfl
  have z1 := HZ2.out.free 1
  have c2 := HZ2.out.cell 2 (v := .slice none 0 0) rfl
  have z2 := HZ2.out.free 2
  have c3 := HZ2.out.cell 3 (v := .int .i64 0) rfl
  have z3 := HZ2.out.free 3
  have c4 := HZ2.out.cell 4 (v := .slice none 0 0) rfl
  have z4 := HZ2.out.free 4
  have c5 := HZ2.out.cell 5 (v := .slice none 0 0) rfl
  have z5 := HZ2.out.free 5
  have c6 := HZ2.out.cell 6 (v := .slice none 0 0) rfl
  have z6 := HZ2.out.free 6
  go_wp2_with fail
  clear c0 z0 c1 z1 c2 z2 c3 z3 c4 z4 c5 z5 c6 z6
  have HZ3 := Lib.hid (((((((HZ2.out.set 0 (.int .i64 0)).set 1 (.int .i64 0)).set 2 (.slice none 0 0)).set 3 (.int .i64 0)).set 4 (.slice none 0 0)).set 5 (.slice none 0 0)).set 6 (.slice none 0 0))
  have HB3 := Lib.hid (((((((HB2.out.setCell (p := ⟨w.heap.size, 0, none⟩) (Nat.le_refl _) (.int .i64 0)).setCell (p := ⟨w.heap.size, 1, none⟩) (Nat.le_refl _) (.int .i64 0)).setCell (p := ⟨w.heap.size, 2, none⟩) (Nat.le_refl _) (.slice none 0 0)).setCell (p := ⟨w.heap.size, 3, none⟩) (Nat.le_refl _) (.int .i64 0)).setCell (p := ⟨w.heap.size, 4, none⟩) (Nat.le_refl _) (.slice none 0 0)).setCell (p := ⟨w.heap.size, 5, none⟩) (Nat.le_refl _) (.slice none 0 0)).setCell (p := ⟨w.heap.size, 6, none⟩) (Nat.le_refl _) (.slice none 0 0))
  generalize (((((((w2.setCell ⟨w.heap.size, 0, none⟩ (.int .i64 0)).setCell ⟨w.heap.size, 1, none⟩ (.int .i64 0)).setCell ⟨w.heap.size, 2, none⟩ (.slice none 0 0)).setCell ⟨w.heap.size, 3, none⟩ (.int .i64 0)).setCell ⟨w.heap.size, 4, none⟩ (.slice none 0 0)).setCell ⟨w.heap.size, 5, none⟩ (.slice none 0 0)).setCell ⟨w.heap.size, 6, none⟩ (.slice none 0 0)) = w3 at *
  have q0 := HZ3.out.cell 0 (v := .int .i64 0) rfl
  have q1 := HZ3.out.cell 1 (v := .int .i64 0) rfl
  have q2 := HZ3.out.cell 2 (v := .slice none 0 0) rfl
  have q3 := HZ3.out.cell 3 (v := .int .i64 0) rfl
  have q4 := HZ3.out.cell 4 (v := .slice none 0 0) rfl
  have q5 := HZ3.out.cell 5 (v := .slice none 0 0) rfl
  have q6 := HZ3.out.cell 6 (v := .slice none 0 0) rfl
  refine bodyPost_ret (v := .tuple #[.agg #[.int .i64 0, .int .i64 0, .slice none 0 0, .int .i64 0, .slice none 0 0, .slice none 0 0, .slice none 0 0], .int .i64 4]) (by simp [results, Tryz.results54, go_sem, q0, q1, q2, q3, q4, q5, q6]) rfl ⟨rfl, HB3.out⟩
end Go.Proofs.YtjdiilkljgljkaaGreatDoor
namespace Go.Proofs.YtjdiilkljgljkaaGreatDoor
set_option linter.unusedVariables false
set_option linter.unusedSimpArgs false
open Go.RowKit Wd

set_option maxHeartbeats 4000000 in
set_option maxRecDepth 100000 in
theorem traced_err (pe po : Nat) (w : World) (v0 : Value) (hc : w.cell? ⟨pe, 0, none⟩ = some (.int .i64 4)) (ho : w.cell? ⟨po, 0, none⟩ = some v0) (hz : w.frozen? ⟨po, 0, none⟩ = false) (u : FrameMode) :
    CallsD Tryz.prog 53 #[.pointer (some ⟨pe, 0, none⟩), .pointer (some ⟨po, 0, none⟩)] u w fun e u' w' => u' = u ∧ (e = .returned (.tuple #[]) ∧ w' = (w.setCell ⟨po, 0, none⟩ (.slice (some ⟨w.heap.size, 0, none⟩) 1 1)).alloc (.cells #[.int .u8 4] 5)) := by
  have hlt : po < w.heap.size := lt_of_cell' ho
  have o0 : (w.alloc (.cells #[.int .u8 4] 5)).cell? ⟨po, 0, none⟩ = some v0 := (((Below.refl w.heap.size w).alloc (Nat.le_refl _) _).cell (p := ⟨po, 0, none⟩) hlt).trans ho
  have z0 : (w.alloc (.cells #[.int .u8 4] 5)).frozen? ⟨po, 0, none⟩ = false := (((Below.refl w.heap.size w).alloc (Nat.le_refl _) _).frozen (p := ⟨po, 0, none⟩) hlt).trans hz
  go_enter_d Tryz.func53, Tryz.ntmps53
  go_wp2_with fail
  go_end0
  exact ⟨rfl, rfl⟩
set_option maxHeartbeats 4000000 in
set_option maxRecDepth 100000 in
theorem serve_TracedNil (w : World) :
    Calls Tryz.prog 30 #[.pointer none, .slice none 0 0] w fun e w' => (∃ A' c', e = .returned (.slice A' 1 c') ∧ By w' A' c' [4]) ∧ Below w.heap.size w w' := by
  have hmf : ∀ (fn : Fn) (first cap : Array Value) (w : World), (Instr.makeFunc fn first cap).run Tryz.prog w = .ok (.func fn first cap) w := fun _ _ _ _ => rfl
  go_enter_defers Tryz.func30, Tryz.ntmps30
  go_wp2_with fail
  have HO := Lib.hid (show Bx ((w.alloc (.cells #[.slice none 0 0] 24)).alloc (.cells #[.int .i64 0] 67)) w.heap.size #[.slice none 0 0] 24 from (Bx.new _ _ _).alloc _)
  have HE := Lib.hid (show Bx ((w.alloc (.cells #[.slice none 0 0] 24)).alloc (.cells #[.int .i64 0] 67)) (w.heap.size + 1) #[.int .i64 0] 67 from bx_new (by simp))
  have HB := Lib.hid (show Below w.heap.size w ((w.alloc (.cells #[.slice none 0 0] 24)).alloc (.cells #[.int .i64 0] 67)) from below_al (below_al below_rf))
  generalize (w.alloc (.cells #[.slice none 0 0] 24)).alloc (.cells #[.int .i64 0] 67) = w1 at *
  refine (codec_DecodeNil _).mono ?_
  rintro e w2 ⟨rfl, B⟩
  have HO2 := Lib.hid (HO.out.below B (Nat.le_refl _)); have HE2 := Lib.hid (HE.out.below B (Nat.le_refl _)); have HB2 := Lib.hid (HB.out.trans (B.mono HB.out.size)); clear B HO HE HB
  have d0 := (HE2.out.alloc (.cells #[.int .i64 0, .int .i64 0, .slice none 0 0, .int .i64 0, .slice none 0 0, .slice none 0 0, .slice none 0 0] 99)).cell 0 (v := .int .i64 0) rfl
  have dz := (HE2.out.alloc (.cells #[.int .i64 0, .int .i64 0, .slice none 0 0, .int .i64 0, .slice none 0 0, .slice none 0 0, .slice none 0 0] 99)).free 0
  go_upto_region 4 with (fail)
  clear d0 dz
  have HE3 := Lib.hid (show Bx ((w2.alloc (.cells #[.int .i64 0, .int .i64 0, .slice none 0 0, .int .i64 0, .slice none 0 0, .slice none 0 0, .slice none 0 0] 99)).setCell ⟨w.heap.size + 1, 0, none⟩ (.int .i64 4)) (w.heap.size + 1) #[.int .i64 4] 67 from (HE2.out.alloc _).set 0 _)
  have HO3 := Lib.hid (show Bx ((w2.alloc (.cells #[.int .i64 0, .int .i64 0, .slice none 0 0, .int .i64 0, .slice none 0 0, .slice none 0 0, .slice none 0 0] 99)).setCell ⟨w.heap.size + 1, 0, none⟩ (.int .i64 4)) w.heap.size #[.slice none 0 0] 24 from (HO2.out.alloc _).other _ (by show w.heap.size ≠ w.heap.size + 1; omega))
  have HB3 := Lib.hid (show Below w.heap.size w ((w2.alloc (.cells #[.int .i64 0, .int .i64 0, .slice none 0 0, .int .i64 0, .slice none 0 0, .slice none 0 0, .slice none 0 0] 99)).setCell ⟨w.heap.size + 1, 0, none⟩ (.int .i64 4)) from (HB2.out.alloc HB2.out.size _).setCell (p := ⟨w.heap.size + 1, 0, none⟩) (by show w.heap.size ≤ w.heap.size + 1; omega) _)
  generalize ((w2.alloc (.cells #[.int .i64 0, .int .i64 0, .slice none 0 0, .int .i64 0, .slice none 0 0, .slice none 0 0, .slice none 0 0] 99)).setCell ⟨w.heap.size + 1, 0, none⟩ (.int .i64 4)) = w3 at *
  clear HE2 HO2 HB2
  have e0 := HE3.out.cell 0 (v := .int .i64 4) rfl
  have o0 := HO3.out.cell 0 (v := .slice none 0 0) rfl
  have oz := HO3.out.free 0
  go_wp2_with fail
  clear e0 o0 oz
  have HE4 := Lib.hid (HE3.out.other (a := ⟨w.heap.size, 0, none⟩) (.slice none 0 0) (by show w.heap.size + 1 ≠ w.heap.size; omega))
  have HO4 := Lib.hid (HO3.out.set 0 (.slice none 0 0))
  have HB4 := Lib.hid (HB3.out.setCell (p := ⟨w.heap.size, 0, none⟩) (Nat.le_refl _) (.slice none 0 0))
  generalize w3.setCell ⟨w.heap.size, 0, none⟩ (.slice none 0 0) = w4 at *
  refine leaves_cons (f := 53) (args := #[.pointer (some ⟨w.heap.size + 1, 0, none⟩), .pointer (some ⟨w.heap.size, 0, none⟩)]) (by simp) (by simp [go_sem]) ?_
  refine (traced_err _ _ _ (.slice none 0 0) (HE4.out.cell 0 rfl) (HO4.out.cell 0 rfl) (HO4.out.free 0) _).mono ?_
  rintro e u' w'' ⟨rfl, rfl, rfl⟩
  have HO5 := Lib.hid ((HO4.out.set 0 (.slice (some ⟨w4.heap.size, 0, none⟩) 1 1)).alloc (.cells #[.int .u8 4] 5))
  have HN5 := Lib.hid (show Bx ((w4.setCell ⟨w.heap.size, 0, none⟩ (.slice (some ⟨w4.heap.size, 0, none⟩) 1 1)).alloc (.cells #[.int .u8 4] 5)) w4.heap.size #[.int .u8 4] 5 from bx_new (by simp [World.setCell]))
  have HB5 := Lib.hid (((HB4.out.setCell (p := ⟨w.heap.size, 0, none⟩) (Nat.le_refl _) (.slice (some ⟨w4.heap.size, 0, none⟩) 1 1)).alloc (by have := HB4.out.size; simpa [World.setCell] using this) (.cells #[.int .u8 4] 5)))
  generalize (w4.setCell ⟨w.heap.size, 0, none⟩ (.slice (some ⟨w4.heap.size, 0, none⟩) 1 1)).alloc (.cells #[.int .u8 4] 5) = w5 at *
  have q := HO5.out.cell 0 (v := .slice (some ⟨w4.heap.size, 0, none⟩) 1 1) rfl
  refine ⟨.slice (some ⟨w4.heap.size, 0, none⟩) 1 1, by simp [results, Tryz.results30, go_sem, q], ⟨some ⟨w4.heap.size, 0, none⟩, 1, rfl, ?_⟩, HB5.out⟩
  refine ⟨by decide, by decide, fun _ => ⟨w4.heap.size, 0, rfl, HN5.out.lt, fun i x hi => ?_⟩⟩
  match i, hi with
  | 0, hi => simp at hi; subst hi; exact HN5.out.cell 0 rfl
  | i + 1, hi => simp at hi
set_option maxHeartbeats 4000000 in
set_option maxRecDepth 100000 in
theorem serve_ServeNil (w : World) :
    Calls Tryz.prog 11 #[.slice none 0 0] w fun e w' => (∃ A' c', e = .returned (.slice A' 1 c') ∧ By w' A' c' [4]) ∧ Below w.heap.size w w' := by
  go_enter Tryz.func11, Tryz.ntmps11
  go_wp2_with fail
  refine (serve_TracedNil _).mono ?_
  rintro e w' ⟨⟨A', c', rfl, hy⟩, B⟩
  have HY := Lib.hid hy; have HB := Lib.hid B; clear hy B
  go_wp2_with fail
  go_ret
  exact ⟨⟨A', c', rfl, HY.out⟩, HB.out⟩
set_option maxHeartbeats 4000000 in
set_option maxRecDepth 100000 in
theorem serve_Serve1 (A : Option Addr) (c : Nat) (f g : Nat → Int) (w : World) (hT : TabM w) (hF : TabF w) (hi : ∀ i, i < 3 → IsI (f i) ∧ IsI (g i)) (hb : By w A c (1 :: ptsB f g 3)) :
    Calls Tryz.prog 11 #[.slice A 49 c] w fun e w' => (∃ A' c', e = .returned (.slice A' 2 c') ∧ By w' A' c' [0, sg (det (f 0) (g 0) (f 1) (g 1) (f 2) (g 2)) + 1]) ∧ Below w.heap.size w w' := by
  have HC := Lib.hid (serve_Traced1 A c f g w hT hF hi hb); clear hT hF hi hb
  go_enter Tryz.func11, Tryz.ntmps11
  go_wp2_with fail
  refine HC.out.mono ?_
  rintro e w' ⟨⟨A', c', rfl, hy⟩, B⟩
  have HY := Lib.hid hy; have HB := Lib.hid B; clear hy B
  go_wp2_with fail
  go_ret
  exact ⟨⟨A', c', rfl, HY.out⟩, HB.out⟩
end Go.Proofs.YtjdiilkljgljkaaGreatDoor
namespace Go.Proofs.YtjdiilkljgljkaaGreatDoor
set_option linter.unusedVariables false
set_option linter.unusedSimpArgs false
open Go.RowKit Wd

theorem By.bytesIn {w : World} {A : Option Addr} {c : Nat} {l : List Int} (h : By w A c l) : Lib.BytesIn w A l.length l := by
  intro h0
  obtain ⟨b, off, e, hlt, hc⟩ := h.at_ h0
  exact ⟨b, off, e, fun i hi => hc i _ (by rw [List.getD_eq_getElem?_getD, List.getElem?_eq_getElem hi]; rfl)⟩
set_option maxHeartbeats 4000000 in
set_option maxRecDepth 100000 in
theorem bytes_Equal_eq (A B : Option Addr) (c d : Nat) (l : List Int) (w : World) (h1 : By w A c l) (h2 : By w B d l) :
    Calls Tryz.prog 10 #[.slice A l.length c, .slice B l.length d] w fun e w' => e = .returned (.bool true) ∧ w = w' := by
  have k1 := h1.bytesIn.convert rfl c 24 5 9 Tryz.underlying24 Tryz.underlying5 Tryz.underlying9
  have k2 := h2.bytesIn.convert rfl d 24 5 9 Tryz.underlying24 Tryz.underlying5 Tryz.underlying9
  clear h1 h2
  generalize l.length = n at *
  go_enter Tryz.func10, Tryz.ntmps10
  go_wp2_with fail
  go_ret
  exact ⟨rfl, rfl⟩
def sX : Nat → Int := fun i => if i = 1 then 1 else 0
def sY : Nat → Int := fun i => if i = 2 then 1 else 0
theorem isI_s (i : Nat) : IsI (sX i) ∧ IsI (sY i) := by
  unfold sX sY IsI; constructor <;> split <;> omega
noncomputable def z49 : Array Value := madeCells #[.int .u8 0] 49
theorem z49_0 : z49[0]? = some (.int .u8 0) := by kernel_rfl
theorem z49_17 : z49[17]? = some (.int .u8 0) := by kernel_rfl
theorem z49_41 : z49[41]? = some (.int .u8 0) := by kernel_rfl
theorem small_bytes : ((z49.setIfInBounds 0 (.int .u8 1)).setIfInBounds 17 (.int .u8 1)).setIfInBounds 41 (.int .u8 1) = (bCells (1 :: ptsB sX sY 3)).toArray := by kernel_rfl
theorem small_len : (1 :: ptsB sX sY 3).length = 49 := by rw [List.length_cons, ptsB_len]
theorem bx_by {w : World} {b : Nat} {l : List Int} {t : TypeId} (h : Bx w b (bCells l).toArray t) (hm : l.length ≤ maxLen) : By w (some ⟨b, 0, none⟩) l.length l :=
  ⟨Nat.le_refl _, hm, fun _ => ⟨b, 0, rfl, h.lt, fun i x hi => by rw [Nat.zero_add]; exact h.cell i (by simp [bCells, hi])⟩⟩
theorem makeB49 (w : World) : (Instr.makeSlice 24 (.int .i64 49) (.int .i64 49)).run Tryz.prog w = .ok (.slice (some ⟨w.heap.size, 0, none⟩) 49 49) (w.alloc (.cells z49 5)) := by kernel_rfl
set_option maxHeartbeats 4000000 in
set_option maxRecDepth 100000 in
theorem top_serves (w : World) (hT : TabM w) (hF : TabF w) :
    Calls Tryz.prog 9 #[] w fun e w' => e = .returned (.bool true) ∧ Below w.heap.size w w' := by
  have hmk := makeB49
  have HT := Lib.hid hT; have HF := Lib.hid hF; clear hT hF
  go_enter Tryz.func9, Tryz.ntmps9
  go_upto_region 2 with (fail)
  have HX := Lib.hid (Bx.new w z49 5)
  have HB1 := Lib.hid (show Below w.heap.size w (w.alloc (.cells z49 5)) from below_al below_rf)
  generalize w.alloc (.cells z49 5) = w1 at *
  have c0 := HX.out.cell 0 z49_0
  have c1 := HX.out.cell 17 z49_17
  have c2 := HX.out.cell 41 z49_41
  have z0 := HX.out.free 0
  have z1 := HX.out.free 17
  have z2 := HX.out.free 41
  go_upto_region 3 with (fail)
  clear c0 c1 c2 z0 z1 z2 hmk
  have HY2 := Lib.hid (show By (((w1.setCell ⟨w.heap.size, 0, none⟩ (.int .u8 1)).setCell ⟨w.heap.size, 17, none⟩ (.int .u8 1)).setCell ⟨w.heap.size, 41, none⟩ (.int .u8 1)) (some ⟨w.heap.size, 0, none⟩) 49 (1 :: ptsB sX sY 3) from by
    have h := ((HX.out.set 0 (.int .u8 1)).set 17 (.int .u8 1)).set 41 (.int .u8 1)
    rw [small_bytes] at h
    have h2 := bx_by h (by rw [small_len]; decide)
    rw [small_len] at h2; exact h2)
  have HB2 := Lib.hid (show Below w.heap.size w (((w1.setCell ⟨w.heap.size, 0, none⟩ (.int .u8 1)).setCell ⟨w.heap.size, 17, none⟩ (.int .u8 1)).setCell ⟨w.heap.size, 41, none⟩ (.int .u8 1)) from ((HB1.out.setCell (p := ⟨w.heap.size, 0, none⟩) (Nat.le_refl _) _).setCell (p := ⟨w.heap.size, 17, none⟩) (Nat.le_refl _) _).setCell (p := ⟨w.heap.size, 41, none⟩) (Nat.le_refl _) _)
  generalize ((w1.setCell ⟨w.heap.size, 0, none⟩ (.int .u8 1)).setCell ⟨w.heap.size, 17, none⟩ (.int .u8 1)).setCell ⟨w.heap.size, 41, none⟩ (.int .u8 1) = w2 at *
  clear HX HB1
  go_wp2_with fail
  refine (serve_ServeNil _).mono ?_
  rintro e w3 ⟨⟨A3, c3, rfl, hy3⟩, B3⟩
  have HY3 := Lib.hid (HY2.out.below B3 (Nat.le_refl _)); have HB3 := Lib.hid (HB2.out.trans (B3.mono HB2.out.size)); clear hy3 B3 HY2 HB2
  go_wp2_with fail
  refine (serve_Serve1 (some ⟨w.heap.size, 0, none⟩) 49 sX sY _ (HT.out.below HB3.out (Nat.le_refl _)) (HF.out.below HB3.out (Nat.le_refl _)) (fun i _ => isI_s i) HY3.out).mono ?_
  rintro e w4 ⟨⟨A4, c4, rfl, hy4⟩, B4⟩
  rw [show sg (det (sX 0) (sY 0) (sX 1) (sY 1) (sX 2) (sY 2)) + 1 = 2 from by decide] at hy4
  have HY4 := Lib.hid hy4; have HB4 := Lib.hid (HB3.out.trans (B4.mono HB3.out.size)); clear hy4 B4 HY3 HB3
  go_wp2_with fail
  have HE4 := Lib.hid (bytes_Equal_eq A4 (some ⟨w4.heap.size, 0, none⟩) c4 2 [0, 2] (w4.alloc (.cells #[.int .u8 0, .int .u8 2] 5)) (HY4.out.alloc _) (bx_by (l := [0, 2]) (Bx.new w4 _ 5) (by decide)))
  have HB5 := Lib.hid (HB4.out.alloc HB4.out.size (.cells #[.int .u8 0, .int .u8 2] 5))
  clear HY4 HB4
  refine HE4.out.mono ?_
  rintro e w5 ⟨rfl, rfl⟩
  clear HE4
  go_wp2_with fail
  refine (serve_ServeNil _).mono ?_
  rintro e w6 ⟨⟨A6, c6, rfl, hy6⟩, B6⟩
  have HY6 := Lib.hid hy6; have HB6 := Lib.hid (HB5.out.trans (B6.mono HB5.out.size)); clear hy6 B6 HB5
  go_wp2_with fail
  have HE6 := Lib.hid (bytes_Equal_eq A6 (some ⟨w6.heap.size, 0, none⟩) c6 1 [4] (w6.alloc (.cells #[.int .u8 4] 5)) (HY6.out.alloc _) (bx_by (l := [4]) (Bx.new w6 _ 5) (by decide)))
  have HB7 := Lib.hid (HB6.out.alloc HB6.out.size (.cells #[.int .u8 4] 5))
  clear HY6 HB6
  refine HE6.out.mono ?_
  rintro e w7 ⟨rfl, rfl⟩
  clear HE6
  go_wp2_with fail
  go_ret
  exact ⟨rfl, HB7.out⟩
end Go.Proofs.YtjdiilkljgljkaaGreatDoor
namespace Go.Proofs.YtjdiilkljgljkaaGreatDoor
set_option linter.unusedVariables false
set_option linter.unusedSimpArgs false
open Go.RowKit Wd

/-- the number of points of a region with that many vertices -/
def szf (v : Int) : Int := if v = 0 then 3 else if v < 3 ∨ 64 < v then 0 else v
set_option maxHeartbeats 4000000 in
set_option maxRecDepth 100000 in
theorem fence_shapeOf0 (d : Bool) (A : Option Addr) (n c : Nat) (w : World) :
    Calls Tryz.prog 111 #[.agg #[.bool d, .int .i64 0, .slice A n c]] w fun e w' => e = .returned (.iface 195 (.agg #[.bool d, .int .i64 0, .slice A n c])) ∧ Below w.heap.size w w' := by
  go_enter Tryz.func111, Tryz.ntmps111
  go_wp2_with fail
  go_ret
  exact ⟨rfl, below_al below_rf⟩
set_option maxHeartbeats 4000000 in
set_option maxRecDepth 100000 in
theorem fence_shapeOf1 (d : Bool) (v : Int) (hv : v ≠ 0) (A : Option Addr) (n c : Nat) (w : World) :
    Calls Tryz.prog 111 #[.agg #[.bool d, .int .i64 v, .slice A n c]] w fun e w' => e = .returned (.iface 196 (.agg #[.bool d, .int .i64 v, .slice A n c])) ∧ Below w.heap.size w w' := by
  go_enter Tryz.func111, Tryz.ntmps111
  go_wp2_with fail
  go_ret
  exact ⟨rfl, below_al below_rf⟩
set_option maxHeartbeats 4000000 in
set_option maxRecDepth 100000 in
theorem round_size (d : Bool) (v : Int) (A : Option Addr) (n c : Nat) (w : World) :
    Calls Tryz.prog 197 #[.agg #[.bool d, .int .i64 v, .slice A n c]] w fun e w' => e = .returned (.int .i64 3) ∧ Below w.heap.size w w' := by
  go_enter Tryz.func197, Tryz.ntmps197
  go_wp2_with fail
  go_ret
  first | exact ⟨rfl, below_al below_rf⟩ | exact ⟨rfl, below_rf⟩
set_option maxHeartbeats 4000000 in
set_option maxRecDepth 100000 in
theorem convex_size (d : Bool) (v : Int) (hv : v ≠ 0) (A : Option Addr) (n c : Nat) (w : World) :
    Calls Tryz.prog 204 #[.agg #[.bool d, .int .i64 v, .slice A n c]] w fun e w' => e = .returned (.int .i64 (szf v)) ∧ Below w.heap.size w w' := by
  by_cases h1 : v < 3
  · rw [show szf v = 0 from by unfold szf; rw [if_neg hv, if_pos (.inl h1)]]
    go_enter Tryz.func204, Tryz.ntmps204
    go_wp2_with fail
    go_ret
    exact ⟨rfl, below_al below_rf⟩
  · by_cases h2 : v > 64
    · rw [show szf v = 0 from by unfold szf; rw [if_neg hv, if_pos (.inr h2)]]
      go_enter Tryz.func204, Tryz.ntmps204
      go_wp2_with fail
      go_ret
      exact ⟨rfl, below_al below_rf⟩
    · rw [show szf v = v from by unfold szf; rw [if_neg hv, if_neg (by omega)]]
      go_enter Tryz.func204, Tryz.ntmps204
      go_wp2_with fail
      go_ret
      exact ⟨rfl, below_al below_rf⟩
/-- which methods the kinds of regions have -/
theorem round_size_is (x : Value) (w : World) : (method 366 195 x "geofence/fence.size").run Tryz.prog w = .ok (197, x) w := by kernel_rfl
theorem round_valid_is (x : Value) (w : World) : (method 366 195 x "geofence/fence.valid").run Tryz.prog w = .ok (198, x) w := by kernel_rfl
theorem round_locate_is (x : Value) (w : World) : (method 366 195 x "geofence/fence.locate").run Tryz.prog w = .ok (196, x) w := by kernel_rfl
theorem convex_size_is (x : Value) (w : World) : (method 366 196 x "geofence/fence.size").run Tryz.prog w = .ok (204, x) w := by kernel_rfl
theorem convex_valid_is (x : Value) (w : World) : (method 366 196 x "geofence/fence.valid").run Tryz.prog w = .ok (205, x) w := by kernel_rfl
theorem convex_locate_is (x : Value) (w : World) : (method 366 196 x "geofence/fence.locate").run Tryz.prog w = .ok (203, x) w := by kernel_rfl
set_option maxHeartbeats 4000000 in
set_option maxRecDepth 100000 in
theorem fence_Size (d : Bool) (v : Int) (A : Option Addr) (n c : Nat) (w : World) :
    Calls Tryz.prog 80 #[.agg #[.bool d, .int .i64 v, .slice A n c]] w fun e w' => e = .returned (.int .i64 (szf v)) ∧ Below w.heap.size w w' := by
  have hm0 := round_size_is
  have hm1 := convex_size_is
  by_cases hv : v = 0
  · subst hv
    rw [show szf 0 = 3 from rfl]
    go_enter Tryz.func80, Tryz.ntmps80
    go_wp2_with fail
    have HB := Lib.hid (show Below w.heap.size w (w.alloc (.cells #[.bool d, .int .i64 0, .slice A n c] 48)) from below_al below_rf)
    refine (fence_shapeOf0 d A n c _).mono ?_
    rintro e w2 ⟨rfl, B⟩
    have HB2 := Lib.hid (HB.out.trans (B.mono HB.out.size)); clear B HB
    go_wp2_with fail
    refine (round_size d 0 A n c _).mono ?_
    rintro e w3 ⟨rfl, B⟩
    have HB3 := Lib.hid (HB2.out.trans (B.mono HB2.out.size)); clear B HB2
    go_wp2_with fail
    go_ret
    exact ⟨rfl, HB3.out⟩
  · have HV := Lib.hid hv; clear hv
    go_enter Tryz.func80, Tryz.ntmps80
    go_wp2_with fail
    have HB := Lib.hid (show Below w.heap.size w (w.alloc (.cells #[.bool d, .int .i64 v, .slice A n c] 48)) from below_al below_rf)
    refine (fence_shapeOf1 d v HV.out A n c _).mono ?_
    rintro e w2 ⟨rfl, B⟩
    have HB2 := Lib.hid (HB.out.trans (B.mono HB.out.size)); clear B HB
    go_wp2_with fail
    refine (convex_size d v HV.out A n c _).mono ?_
    rintro e w3 ⟨rfl, B⟩
    have HB3 := Lib.hid (HB2.out.trans (B.mono HB2.out.size)); clear B HB2
    go_wp2_with fail
    go_ret
    exact ⟨rfl, HB3.out⟩
end Go.Proofs.YtjdiilkljgljkaaGreatDoor
namespace Go.Proofs.YtjdiilkljgljkaaGreatDoor
set_option linter.unusedVariables false
set_option linter.unusedSimpArgs false
open Go.RowKit Wd

/-- the slice '.slice A n c' holds these regions -/
structure Rgs (w : World) (A : Option Addr) (n c : Nat) (d : Nat → Bool) (v : Nat → Int) (Q : Nat → Option Addr × Nat × Nat) : Prop where
  cap : n ≤ c
  max : c ≤ maxLen
  isi : ∀ i, i < n → IsI (v i)
  at_ : 0 < n → ∃ b off, A = some ⟨b, off, none⟩ ∧ b < w.heap.size ∧ ∀ i, i < n → w.cell? ⟨b, off + i * 3, none⟩ = some (.bool (d i)) ∧ w.cell? ⟨b, off + i * 3 + 1, none⟩ = some (.int .i64 (v i)) ∧ w.cell? ⟨b, off + i * 3 + 2, none⟩ = some (.slice (Q i).1 (Q i).2.1 (Q i).2.2)
theorem Rgs.below {w w' : World} {B : Nat} {A : Option Addr} {n c : Nat} {d : Nat → Bool} {v : Nat → Int} {Q : Nat → Option Addr × Nat × Nat} (h : Rgs w A n c d v Q) (hb : Below B w w') (hB : w.heap.size ≤ B) : Rgs w' A n c d v Q :=
  ⟨h.cap, h.max, h.isi, fun hn => by
    obtain ⟨b, off, e, hlt, hc⟩ := h.at_ hn
    exact ⟨b, off, e, Nat.lt_of_lt_of_le hlt hb.size, fun i hi => ⟨(hb.cell (p := ⟨b, off + i * 3, none⟩) (by show b < B; omega)).trans (hc i hi).1, (hb.cell (p := ⟨b, off + i * 3 + 1, none⟩) (by show b < B; omega)).trans (hc i hi).2.1, (hb.cell (p := ⟨b, off + i * 3 + 2, none⟩) (by show b < B; omega)).trans (hc i hi).2.2⟩⟩⟩
theorem Rgs.alloc {w : World} {A : Option Addr} {n c : Nat} {d : Nat → Bool} {v : Nat → Int} {Q : Nat → Option Addr × Nat × Nat} (h : Rgs w A n c d v Q) (o : Obj) : Rgs (w.alloc o) A n c d v Q :=
  h.below ((Below.refl w.heap.size w).alloc (Nat.le_refl _) o) (Nat.le_refl _)
theorem Rgs.drew {w : World} {A : Option Addr} {n c : Nat} {d : Nat → Bool} {v : Nat → Int} {Q : Nat → Option Addr × Nat × Nat} (h : Rgs w A n c d v Q) : Rgs w.drew A n c d v Q := h.below (Below.refl w.heap.size w).drew (Nat.le_refl _)
/-- the points of the regions -/
structure RgP (w : World) (n : Nat) (Q : Nat → Option Addr × Nat × Nat) (F G : Nat → Nat → Int) : Prop where
  pts : ∀ i, i < n → Pts w (Q i).1 (Q i).2.1 (Q i).2.2 (F i) (G i)
theorem RgP.below {w w' : World} {B n : Nat} {Q : Nat → Option Addr × Nat × Nat} {F G : Nat → Nat → Int} (h : RgP w n Q F G) (hb : Below B w w') (hB : w.heap.size ≤ B) : RgP w' n Q F G := ⟨fun i hi => (h.pts i hi).below hb hB⟩
theorem RgP.alloc {w : World} {n : Nat} {Q : Nat → Option Addr × Nat × Nat} {F G : Nat → Nat → Int} (h : RgP w n Q F G) (o : Obj) : RgP (w.alloc o) n Q F G := ⟨fun i hi => (h.pts i hi).alloc o⟩
theorem RgP.drew {w : World} {n : Nat} {Q : Nat → Option Addr × Nat × Nat} {F G : Nat → Nat → Int} (h : RgP w n Q F G) : RgP w.drew n Q F G := ⟨fun i hi => (h.pts i hi).drew⟩
/-- the public structure is in order: kinds -/
structure OkK (n : Nat) (v : Nat → Int) : Prop where
  pos : 1 ≤ n
  le : n ≤ 64
  kind : ∀ i, i < n → szf (v i) ≠ 0
/-- the public structure is in order: kinds and numbers of points -/
structure OkR (n : Nat) (v : Nat → Int) (Q : Nat → Option Addr × Nat × Nat) : Prop extends OkK n v where
  num : ∀ i, i < n → (((Q i).2.1 : Nat) : Int) = szf (v i)
theorem szf_range (v : Int) : 0 ≤ szf v ∧ szf v ≤ 64 := by unfold szf; split; · omega
                                                           split <;> omega
theorem OkK.range {n : Nat} {v : Nat → Int} (h : OkK n v) {i : Nat} (hi : i < n) : 0 ≤ v i ∧ v i ≤ 64 ∧ 3 ≤ szf (v i) := by
  have := h.kind i hi
  unfold szf at *
  split at this
  · simp_all
  · split at this
    · exact absurd rfl this
    · rename_i h1 h2; simp [h1, h2]; omega
end Go.Proofs.YtjdiilkljgljkaaGreatDoor
namespace Go.Proofs.YtjdiilkljgljkaaGreatDoor
set_option linter.unusedVariables false
set_option linter.unusedSimpArgs false
open Go.RowKit Wd

set_option maxHeartbeats 4000000 in
set_option maxRecDepth 100000 in
theorem ref16_Size (v : Int) (w : World) :
    Calls Tryz.prog 37 #[.int .i64 v] w fun e w' => e = .returned (.int .i64 (szf v)) ∧ w = w' := by
  by_cases h0 : v = 0
  · subst h0
    go_enter Tryz.func37, Tryz.ntmps37
    go_wp2_with fail
    go_ret
    exact ⟨rfl, rfl⟩
  · by_cases h1 : v ≥ 3
    · by_cases h2 : v ≤ 64
      · rw [show szf v = v from by unfold szf; rw [if_neg h0, if_neg (by omega)]]
        go_enter Tryz.func37, Tryz.ntmps37
        go_wp2_with fail
        go_ret
        exact ⟨rfl, rfl⟩
      · rw [show szf v = 0 from by unfold szf; rw [if_neg h0, if_pos (by omega)]]
        go_enter Tryz.func37, Tryz.ntmps37
        go_wp2_with fail
        go_ret
        exact ⟨rfl, rfl⟩
    · rw [show szf v = 0 from by unfold szf; rw [if_neg h0, if_pos (by omega)]]
      go_enter Tryz.func37, Tryz.ntmps37
      go_wp2_with fail
      go_ret
      exact ⟨rfl, rfl⟩
set_option maxHeartbeats 4000000 in
set_option maxRecDepth 100000 in
theorem ref16_Check (A : Option Addr) (n c : Nat) (d : Nat → Bool) (v : Nat → Int) (Q : Nat → Option Addr × Nat × Nat) (w : World) (hr : Rgs w A n c d v Q) :
    Calls Tryz.prog 15 #[.slice A n c] w fun e w' => (∃ x : Int, e = .returned (.int .i64 x) ∧ (x = 0 ↔ OkR n v Q)) ∧ Below w.heap.size w w' := by
  have HR := Lib.hid hr
  have hcp := hr.cap
  have hmx := hr.max
  clear hr
  unfold maxLen at hmx
  by_cases h1 : (n : Int) < 1
  · have HN := Lib.hid (show ((6 : Int) = 0 ↔ OkR n v Q) from ⟨fun h => by omega, fun h => by have := h.pos; omega⟩)
    go_enter Tryz.func15, Tryz.ntmps15
    go_wp2_with fail
    go_ret
    exact ⟨⟨6, rfl, HN.out⟩, below_rf⟩
  by_cases h2 : (n : Int) > 64
  · have HN := Lib.hid (show ((6 : Int) = 0 ↔ OkR n v Q) from ⟨fun h => by omega, fun h => by have := h.le; omega⟩)
    go_enter Tryz.func15, Tryz.ntmps15
    go_wp2_with fail
    go_ret
    exact ⟨⟨6, rfl, HN.out⟩, below_rf⟩
  obtain ⟨b, off, rfl, hbl, hc⟩ := HR.out.at_ (by omega)
  have HC := Lib.hid hc; have HBL := Lib.hid hbl; clear hc hbl
  go_enter Tryz.func15, Tryz.ntmps15
  go_wp2_with fail
  go_loopw [3] (fun ir wr => ∃ k : Nat, k ≤ n ∧ ir = .int .i64 (k : Int) ∧ (∀ i, i < k → szf (v i) ≠ 0 ∧ (((Q i).2.1 : Nat) : Int) = szf (v i)) ∧ w = wr) (fun i _ => n - (intOf i).toNat)
  case atStart => exact ⟨0, by omega, rfl, fun i hi => absurd hi (by omega), rfl⟩
  case round =>
    obtain ⟨k, hk, rfl, hs, rfl⟩ := hrel
    have HS := Lib.hid hs; clear hs
    by_cases hlt : k < n
    · have p1 := (HC.out k hlt).2.1
      have p2 := (HC.out k hlt).2.2
      have hms := Lib.hid (show n - (intOf (.int .i64 ((k : Int) + 1))).toNat < n - (intOf (.int .i64 (k : Int))).toNat from by simp [intOf]; omega)
      go_wp2_with fail
      refine (ref16_Size (v k) _).mono ?_
      rintro e w2 ⟨rfl, rfl⟩
      by_cases hz : szf (v k) = 0
      · have HN := Lib.hid (show ((7 : Int) = 0 ↔ OkR n v Q) from ⟨fun h => by omega, fun h => absurd hz (h.kind k hlt)⟩)
        go_wp2_with fail
        go_ret
        exact ⟨⟨7, rfl, HN.out⟩, below_rf⟩
      · by_cases hq : (((Q k).2.1 : Nat) : Int) = szf (v k)
        · have HZ := Lib.hid hz; have HQ := Lib.hid hq
          go_wp2_with fail
          go_roundw
          case rel => exact ⟨k + 1, hlt, by go_num, fun i hi => by
            by_cases hik : i < k
            · exact HS.out i hik
            · obtain rfl : i = k := by omega
              exact ⟨HZ.out, HQ.out⟩, trivial⟩
          case measure => exact hms.out
        · have HN := Lib.hid (show ((8 : Int) = 0 ↔ OkR n v Q) from ⟨fun h => by omega, fun h => absurd (h.num k hlt) hq⟩)
          go_wp2_with fail
          go_ret
          exact ⟨⟨8, rfl, HN.out⟩, below_rf⟩
    · obtain rfl : k = n := by omega
      have HN := Lib.hid (show OkR k v Q from ⟨⟨by omega, by omega, fun i hi => (HS.out i hi).1⟩, fun i hi => (HS.out i hi).2⟩)
      go_wp2_with fail
      go_ret
      exact ⟨⟨0, rfl, fun _ => HN.out, fun _ => rfl⟩, below_rf⟩
set_option maxHeartbeats 4000000 in
set_option maxRecDepth 100000 in
theorem fence_Check (A : Option Addr) (n c : Nat) (d : Nat → Bool) (v : Nat → Int) (Q : Nat → Option Addr × Nat × Nat) (w : World) (hr : Rgs w A n c d v Q) (ho : OkR n v Q) :
    Calls Tryz.prog 133 #[.slice A n c] w fun e w' => e = .returned (.int .i64 0) ∧ Below w.heap.size w w' := by
  have HR := Lib.hid hr
  have HO := Lib.hid ho
  have hcp := hr.cap
  have hmx := hr.max
  have h1 := ho.pos
  have h2 := ho.le
  clear hr ho
  unfold maxLen at hmx
  obtain ⟨b, off, rfl, hbl, hc⟩ := HR.out.at_ (by omega)
  have HC := Lib.hid hc; have HBL := Lib.hid hbl; clear hc hbl
  go_enter Tryz.func133, Tryz.ntmps133
  go_wp2_with fail
  go_loopw [15] (fun ir wr => ∃ k : Nat, k ≤ n ∧ ir = .int .i64 (k : Int) ∧ Below w.heap.size w wr) (fun i _ => n - (intOf i).toNat)
  case atStart => exact ⟨0, by omega, rfl, below_rf⟩
  case round =>
    obtain ⟨k, hk, rfl, hb⟩ := hrel
    have HB := Lib.hid hb; clear hb
    by_cases hlt : k < n
    · have p0 : wr.cell? ⟨b, off + k * 3, none⟩ = some (.bool (d k)) := (HB.out.cell (p := ⟨b, off + k * 3, none⟩) HBL.out).trans (HC.out k hlt).1
      have p1 : wr.cell? ⟨b, off + k * 3 + 1, none⟩ = some (.int .i64 (v k)) := (HB.out.cell (p := ⟨b, off + k * 3 + 1, none⟩) HBL.out).trans (HC.out k hlt).2.1
      have p2 : wr.cell? ⟨b, off + k * 3 + 2, none⟩ = some (.slice (Q k).1 (Q k).2.1 (Q k).2.2) := (HB.out.cell (p := ⟨b, off + k * 3 + 2, none⟩) HBL.out).trans (HC.out k hlt).2.2
      have hms := Lib.hid (show n - (intOf (.int .i64 ((k : Int) + 1))).toNat < n - (intOf (.int .i64 (k : Int))).toNat from by simp [intOf]; omega)
      go_wp2_with fail
      clear p0 p1 p2
      have HX := Lib.hid (Bx.new wr #[.bool (d k), .int .i64 (v k), .slice (Q k).1 (Q k).2.1 (Q k).2.2] 48)
      have HB1 := Lib.hid (HB.out.trans ((show Below wr.heap.size wr (wr.alloc (.cells #[.bool (d k), .int .i64 (v k), .slice (Q k).1 (Q k).2.1 (Q k).2.2] 48)) from below_al below_rf).mono HB.out.size)); clear HB
      refine (fence_Size (d k) (v k) _ _ _ _).mono ?_
      rintro e w2 ⟨rfl, B⟩
      have HX2 := Lib.hid (HX.out.below B (Nat.le_refl _))
      have HB2 := Lib.hid (HB1.out.trans (B.mono HB1.out.size)); clear B HB1 HX
      have hz := HO.out.kind k hlt
      have hq := (HO.out.num k hlt).symm
      rw [hq] at hz ⊢
      clear hq
      have v2 := HX2.out.cell 2 (v := .slice (Q k).1 (Q k).2.1 (Q k).2.2) rfl
      go_wp2_with fail
      go_roundw
      case rel => exact ⟨k + 1, hlt, by go_num, HB2.out⟩
      case measure => exact hms.out
    · obtain rfl : k = n := by omega
      go_wp2_with fail
      go_ret
      exact ⟨rfl, HB.out⟩
end Go.Proofs.YtjdiilkljgljkaaGreatDoor
namespace Go.Proofs.YtjdiilkljgljkaaGreatDoor
set_option linter.unusedVariables false
set_option linter.unusedSimpArgs false
open Go.RowKit Wd

theorem info_pt : (Tryz.prog.info? 23).map (·.size) = some 2 := by kernel_rfl
theorem not_msk (b : Bool) : bits .xor .u64 IntKind.u64.max (msk b) = msk (!b) := by cases b <;> rfl
theorem sg_w0 (x : Int) : decide (IntKind.u64.wrap (sg x) = 0) = decide (x = 0) := by
  rw [decide_eq_decide, wrapU]; unfold lo sg
  rcases (by omega : x < 0 ∨ x = 0 ∨ 0 < x) with h | h | h
  · rw [Int.sign_eq_neg_one_of_neg h]; omega
  · subst h; simp
  · rw [Int.sign_eq_one_of_pos h]; omega
theorem tape_Note_nil (k a b : Int) (w : World) :
    Calls Tryz.prog 136 #[.pointer none, .int .i64 k, .int .i64 a, .int .i64 b] w fun e w' => e = .returned (.tuple #[]) ∧ w = w' := by
  go_enter Tryz.func136, Tryz.ntmps136
  go_wp2
  exact bodyPost_ret (results_none rfl _ _ _) rfl ⟨rfl, rfl⟩
set_option maxHeartbeats 4000000 in
theorem disc_from3 (A : Option Addr) (c : Nat) (ax ay bx b_ cx cy : Int) (w : World) (h3 : T3 w A c ax ay bx b_ cx cy) :
    Calls Tryz.prog 201 #[.slice A 3 c] w fun e w' => e = .returned (.tuple #[.agg #[.int .i64 ax, .int .i64 ay, .int .i64 bx, .int .i64 b_, .int .i64 cx, .int .i64 cy], .bool true]) ∧ Below w.heap.size w w' := by
  have h3' := (h3.alloc (.cells #[.int .i64 0, .int .i64 0, .int .i64 0, .int .i64 0, .int .i64 0, .int .i64 0] 262)).alloc (.cells #[.int .i64 0, .int .i64 0, .int .i64 0, .int .i64 0, .int .i64 0, .int .i64 0] 262)
  obtain ⟨b, off, rfl, hc6⟩ := h3'.at_
  have HS := Lib.hid hc6.src
  clear hc6 h3' h3
  have HZ := Lib.hid (Bx.new (w.alloc (.cells #[.int .i64 0, .int .i64 0, .int .i64 0, .int .i64 0, .int .i64 0, .int .i64 0] 262)) #[.int .i64 0, .int .i64 0, .int .i64 0, .int .i64 0, .int .i64 0, .int .i64 0] 262)
  have HY := Lib.hid ((Bx.new w #[.int .i64 0, .int .i64 0, .int .i64 0, .int .i64 0, .int .i64 0, .int .i64 0] 262).alloc (.cells #[.int .i64 0, .int .i64 0, .int .i64 0, .int .i64 0, .int .i64 0, .int .i64 0] 262))
  have HB := Lib.hid (((Below.refl w.heap.size w).alloc (Nat.le_refl _) (.cells #[.int .i64 0, .int .i64 0, .int .i64 0, .int .i64 0, .int .i64 0, .int .i64 0] 262)).alloc (by simp) (.cells #[.int .i64 0, .int .i64 0, .int .i64 0, .int .i64 0, .int .i64 0, .int .i64 0] 262))
  obtain ⟨w2, hrun, h1, h2, hb2⟩ := copy2_ex (P := Tryz.prog) _ 29 29 3 23 Tryz.underlying29 info_pt (w.heap.size + 1) 3 3 ⟨b, off, none⟩ 3 c 3 #[.int .i64 0, .int .i64 0, .int .i64 0, .int .i64 0, .int .i64 0, .int .i64 0] 262 (by simpa using HZ.out) [.int .i64 ax, .int .i64 ay, .int .i64 bx, .int .i64 b_, .int .i64 cx, .int .i64 cy] rfl rfl HS.out rfl (by simp [Value.oneCell']) w.heap.size w HB.out (by omega)
  have H1 := Lib.hid h1; have H2 := Lib.hid h2; have HB3 := Lib.hid hb2
  clear h1 h2 hb2 HS HZ HB
  have p0 := H1.out.cell 0 (v := .int .i64 ax) rfl
  have p1 := H1.out.cell 1 (v := .int .i64 ay) rfl
  have p2 := H1.out.cell 2 (v := .int .i64 bx) rfl
  have p3 := H1.out.cell 3 (v := .int .i64 b_) rfl
  have p4 := H1.out.cell 4 (v := .int .i64 cx) rfl
  have p5 := H1.out.cell 5 (v := .int .i64 cy) rfl
  have R := Lib.hid (show Bx w2 w.heap.size #[.int .i64 0, .int .i64 0, .int .i64 0, .int .i64 0, .int .i64 0, .int .i64 0] 262 from (H2.out w.heap.size (by omega)).trans HY.out)
  have q0 := R.out.cell 0 (v := .int .i64 0) rfl; have z0 := R.out.free 0
  have q1 := R.out.cell 1 (v := .int .i64 0) rfl; have z1 := R.out.free 1
  have q2 := R.out.cell 2 (v := .int .i64 0) rfl; have z2 := R.out.free 2
  have q3 := R.out.cell 3 (v := .int .i64 0) rfl; have z3 := R.out.free 3
  have q4 := R.out.cell 4 (v := .int .i64 0) rfl; have z4 := R.out.free 4
  have q5 := R.out.cell 5 (v := .int .i64 0) rfl; have z5 := R.out.free 5
  clear H1 H2 HY
  have R6 := Lib.hid (bx_set6 (v0 := .int .i64 ax) (v1 := .int .i64 ay) (v2 := .int .i64 bx) (v3 := .int .i64 b_) (v4 := .int .i64 cx) (v5 := .int .i64 cy) R.out)
  have HB4 := Lib.hid (show Below w.heap.size w (((((((w2.setCell ⟨w.heap.size, 0, none⟩ (.int .i64 ax)).setCell ⟨w.heap.size, 1, none⟩ (.int .i64 ay)).setCell ⟨w.heap.size, 2, none⟩ (.int .i64 bx)).setCell ⟨w.heap.size, 3, none⟩ (.int .i64 b_)).setCell ⟨w.heap.size, 4, none⟩ (.int .i64 cx)).setCell ⟨w.heap.size, 5, none⟩ (.int .i64 cy))) from (below_st (Nat.le_refl _) (below_st (Nat.le_refl _) (below_st (Nat.le_refl _) (below_st (Nat.le_refl _) (below_st (Nat.le_refl _) (below_st (Nat.le_refl _) HB3.out)))))))
  go_enter Tryz.func201, Tryz.ntmps201
  go_wp2_with fail
  clear p0 q0 z0 p1 q1 z1 p2 q2 z2 p3 q3 z3 p4 q4 z4 p5 q5 z5 hrun R HB3
  generalize ((((((w2.setCell ⟨w.heap.size, 0, none⟩ (.int .i64 ax)).setCell ⟨w.heap.size, 1, none⟩ (.int .i64 ay)).setCell ⟨w.heap.size, 2, none⟩ (.int .i64 bx)).setCell ⟨w.heap.size, 3, none⟩ (.int .i64 b_)).setCell ⟨w.heap.size, 4, none⟩ (.int .i64 cx)).setCell ⟨w.heap.size, 5, none⟩ (.int .i64 cy)) = w3 at *
  have r0 := R6.out.cell 0 (v := .int .i64 ax) rfl
  have r1 := R6.out.cell 1 (v := .int .i64 ay) rfl
  have r2 := R6.out.cell 2 (v := .int .i64 bx) rfl
  have r3 := R6.out.cell 3 (v := .int .i64 b_) rfl
  have r4 := R6.out.cell 4 (v := .int .i64 cx) rfl
  have r5 := R6.out.cell 5 (v := .int .i64 cy) rfl
  refine bodyPost_ret (v := .tuple #[.agg #[.int .i64 ax, .int .i64 ay, .int .i64 bx, .int .i64 b_, .int .i64 cx, .int .i64 cy], .bool true]) (by simp [results, Tryz.results201, go_sem, r0, r1, r2, r3, r4, r5]) rfl ⟨rfl, HB4.out⟩
set_option maxHeartbeats 4000000 in
theorem disc_Valid3 (A : Option Addr) (c : Nat) (ax ay bx b_ cx cy : Int) (hp : P3 ax ay bx b_ cx cy) (w : World) (hT : TabM w) (h3 : T3 w A c ax ay bx b_ cx cy) :
    Calls Tryz.prog 200 #[.pointer none, .slice A 3 c] w fun e w' => e = .returned (.int .u64 (msk (!decide (det ax ay bx b_ cx cy = 0)))) ∧ Below w.heap.size w w' := by
  have HB0 := Lib.hid (Below.refl w.heap.size w)
  have FT := Lib.hid hT
  have FX := Lib.hid h3
  clear hT h3
  have hnm := not_msk (decide (det ax ay bx b_ cx cy = 0))
  go_enter Tryz.func200, Tryz.ntmps200
  go_wp2_with fail
  refine (disc_from3 A c ax ay bx b_ cx cy _ FX.out).mono ?_
  rintro e w1 ⟨rfl, B⟩
  have HB1 := Lib.hid (HB0.out.trans (B.mono HB0.out.size))
  have FT_1 := Lib.hid (FT.out.below B (Nat.le_refl _))
  have FX_1 := Lib.hid (FX.out.below B (Nat.le_refl _))
  clear B  HB0 FT FX
  go_wp2_with fail
  have B : Below w.heap.size w (w1.alloc (.cells #[.int .i64 ax, .int .i64 ay, .int .i64 bx, .int .i64 b_, .int .i64 cx, .int .i64 cy] 262)) := (HB1.out.alloc HB1.out.size _)
  have C : Below w1.heap.size w1 (w1.alloc (.cells #[.int .i64 ax, .int .i64 ay, .int .i64 bx, .int .i64 b_, .int .i64 cx, .int .i64 cy] 262)) := ((Below.refl w1.heap.size w1).alloc (Nat.le_refl _) _)
  have X0 : Bx (w1.alloc (.cells #[.int .i64 ax, .int .i64 ay, .int .i64 bx, .int .i64 b_, .int .i64 cx, .int .i64 cy] 262)) (w1.heap.size) #[.int .i64 ax, .int .i64 ay, .int .i64 bx, .int .i64 b_, .int .i64 cx, .int .i64 cy] 262 := by simpa using (Bx.new w1 #[.int .i64 ax, .int .i64 ay, .int .i64 bx, .int .i64 b_, .int .i64 cx, .int .i64 cy] 262)
  have FT_2 := Lib.hid (FT_1.out.below C (Nat.le_refl _))
  have HB2 := Lib.hid B
  have FC_2 := Lib.hid X0
  clear B C X0 HB1 FT_1
  generalize (w1.alloc (.cells #[.int .i64 ax, .int .i64 ay, .int .i64 bx, .int .i64 b_, .int .i64 cx, .int .i64 cy] 262)) = w2 at *
  skip
  refine (tape_Note_nil _ _ _ _).mono ?_
  rintro e w3 ⟨rfl, rfl⟩
  have vC0 := FC_2.out.cell 0 (v := .int .i64 ax) rfl
  have vC1 := FC_2.out.cell 1 (v := .int .i64 ay) rfl
  have vC2 := FC_2.out.cell 2 (v := .int .i64 bx) rfl
  have vC3 := FC_2.out.cell 3 (v := .int .i64 b_) rfl
  have vC4 := FC_2.out.cell 4 (v := .int .i64 cx) rfl
  have vC5 := FC_2.out.cell 5 (v := .int .i64 cy) rfl
  go_wp2_with fail
  refine (orient_Sign _ _ _ _ _ _ hp _ FT_2.out).mono ?_
  rintro e w4 ⟨rfl, B⟩
  clear vC0 vC1 vC2 vC3 vC4 vC5
  have HB4 := Lib.hid (HB2.out.trans (B.mono HB2.out.size))
  have FT_4 := Lib.hid (FT_2.out.below B (Nat.le_refl _))
  have FC_4 := Lib.hid (FC_2.out.below B (Nat.le_refl _))
  clear B  HB2 FT_2 FC_2
  go_wp2_with fail
  refine (mask_Zero _ (isW_wrap _) _).mono ?_
  rintro e w5 ⟨rfl, rfl⟩
  rw [sg_w0]
  go_wp2_with fail
  go_ret
  exact ⟨rfl, HB4.out⟩

set_option maxHeartbeats 4000000 in
theorem disc_Locate3 (A : Option Addr) (c : Nat) (ax ay bx b_ cx cy dx dy : Int) (hp : P4 ax ay bx b_ cx cy dx dy) (w : World) (hT : TabM w) (h3 : T3 w A c ax ay bx b_ cx cy) :
    Calls Tryz.prog 199 #[.pointer none, .slice A 3 c, .agg #[.int .i64 dx, .int .i64 dy]] w fun e w' => e = .returned (.int .i64 (sg (circ ax ay bx b_ cx cy dx dy) * sg (det ax ay bx b_ cx cy))) ∧ Below w.heap.size w w' := by
  have HB0 := Lib.hid (Below.refl w.heap.size w)
  have FT := Lib.hid hT
  have FX := Lib.hid h3
  clear hT h3
  go_enter Tryz.func199, Tryz.ntmps199
  go_wp2_with fail
  have B : Below w.heap.size w (w.alloc (.cells #[.int .i64 dx, .int .i64 dy] 23)) := (HB0.out.alloc HB0.out.size _)
  have C : Below w.heap.size w (w.alloc (.cells #[.int .i64 dx, .int .i64 dy] 23)) := ((Below.refl w.heap.size w).alloc (Nat.le_refl _) _)
  have X0 : Bx (w.alloc (.cells #[.int .i64 dx, .int .i64 dy] 23)) (w.heap.size) #[.int .i64 dx, .int .i64 dy] 23 := by simpa using (Bx.new w #[.int .i64 dx, .int .i64 dy] 23)
  have FT_1 := Lib.hid (FT.out.below C (Nat.le_refl _))
  have FX_1 := Lib.hid (FX.out.below C (Nat.le_refl _))
  have HB1 := Lib.hid B
  have FP_1 := Lib.hid X0
  clear B C X0 HB0 FT FX
  generalize (w.alloc (.cells #[.int .i64 dx, .int .i64 dy] 23)) = w1 at *
  skip
  refine (disc_from3 A c ax ay bx b_ cx cy _ FX_1.out).mono ?_
  rintro e w2 ⟨rfl, B⟩
  have HB2 := Lib.hid (HB1.out.trans (B.mono HB1.out.size))
  have FT_2 := Lib.hid (FT_1.out.below B (Nat.le_refl _))
  have FX_2 := Lib.hid (FX_1.out.below B (Nat.le_refl _))
  have FP_2 := Lib.hid (FP_1.out.below B (Nat.le_refl _))
  clear B  HB1 FT_1 FX_1 FP_1
  go_wp2_with fail
  have B : Below w.heap.size w (w2.alloc (.cells #[.int .i64 ax, .int .i64 ay, .int .i64 bx, .int .i64 b_, .int .i64 cx, .int .i64 cy] 262)) := (HB2.out.alloc HB2.out.size _)
  have C : Below w2.heap.size w2 (w2.alloc (.cells #[.int .i64 ax, .int .i64 ay, .int .i64 bx, .int .i64 b_, .int .i64 cx, .int .i64 cy] 262)) := ((Below.refl w2.heap.size w2).alloc (Nat.le_refl _) _)
  have X0 : Bx (w2.alloc (.cells #[.int .i64 ax, .int .i64 ay, .int .i64 bx, .int .i64 b_, .int .i64 cx, .int .i64 cy] 262)) (w2.heap.size) #[.int .i64 ax, .int .i64 ay, .int .i64 bx, .int .i64 b_, .int .i64 cx, .int .i64 cy] 262 := by simpa using (Bx.new w2 #[.int .i64 ax, .int .i64 ay, .int .i64 bx, .int .i64 b_, .int .i64 cx, .int .i64 cy] 262)
  have FT_3 := Lib.hid (FT_2.out.below C (Nat.le_refl _))
  have FP_3 := Lib.hid (FP_2.out.below C (Nat.le_refl _))
  have HB3 := Lib.hid B
  have FC_3 := Lib.hid X0
  clear B C X0 HB2 FT_2 FP_2
  generalize (w2.alloc (.cells #[.int .i64 ax, .int .i64 ay, .int .i64 bx, .int .i64 b_, .int .i64 cx, .int .i64 cy] 262)) = w3 at *
  skip
  refine (tape_Note_nil _ _ _ _).mono ?_
  rintro e w4 ⟨rfl, rfl⟩
  have vC0 := FC_3.out.cell 0 (v := .int .i64 ax) rfl
  have vC1 := FC_3.out.cell 1 (v := .int .i64 ay) rfl
  have vC2 := FC_3.out.cell 2 (v := .int .i64 bx) rfl
  have vC3 := FC_3.out.cell 3 (v := .int .i64 b_) rfl
  have vC4 := FC_3.out.cell 4 (v := .int .i64 cx) rfl
  have vC5 := FC_3.out.cell 5 (v := .int .i64 cy) rfl
  have vP0 := FP_3.out.cell 0 (v := .int .i64 dx) rfl
  have vP1 := FP_3.out.cell 1 (v := .int .i64 dy) rfl
  go_wp2_with fail
  refine (circle_Side _ _ _ _ _ _ _ _ hp _ FT_3.out).mono ?_
  rintro e w5 ⟨rfl, B⟩
  clear vC0 vC1 vC2 vC3 vC4 vC5 vP0 vP1
  have HB5 := Lib.hid (HB3.out.trans (B.mono HB3.out.size))
  have FT_5 := Lib.hid (FT_3.out.below B (Nat.le_refl _))
  have FP_5 := Lib.hid (FP_3.out.below B (Nat.le_refl _))
  have FC_5 := Lib.hid (FC_3.out.below B (Nat.le_refl _))
  clear B  HB3 FT_3 FP_3 FC_3
  have vC0 := FC_5.out.cell 0 (v := .int .i64 ax) rfl
  have vC1 := FC_5.out.cell 1 (v := .int .i64 ay) rfl
  have vC2 := FC_5.out.cell 2 (v := .int .i64 bx) rfl
  have vC3 := FC_5.out.cell 3 (v := .int .i64 b_) rfl
  have vC4 := FC_5.out.cell 4 (v := .int .i64 cx) rfl
  have vC5 := FC_5.out.cell 5 (v := .int .i64 cy) rfl
  have vP0 := FP_5.out.cell 0 (v := .int .i64 dx) rfl
  have vP1 := FP_5.out.cell 1 (v := .int .i64 dy) rfl
  go_wp2_with fail
  go_ret
  exact ⟨rfl, HB5.out⟩

end Go.Proofs.YtjdiilkljgljkaaGreatDoor
namespace Go.Proofs.YtjdiilkljgljkaaGreatDoor
set_option linter.unusedVariables false
set_option linter.unusedSimpArgs false
open Go.RowKit Wd

theorem getO_of {xs : Array Value} {t : Nat} {v : Value} (h : xs[t]? = some v) : xs[t]?.getD undef = v := by rw [h]; rfl
/-- one operation, none being let out -/
def wpOpP (P : Program) (ops : Array Oper) (Q : Exit → Act → World → Prop) (i : Nat) (K : Act → World → Prop) (a : Act) (w : World) : Prop :=
  match ops[i]? with
  | none => K a w
  | some o => if Region.wanted o (yielded ops a.tmps) then o.wp P a w K Q else K (a.put o.dst undef) w

section
variable {P : Program} {ops : Array Oper} {Q : Exit → Act → World → Prop} {n : Nat}
theorem wpOpP_step {i : Nat} {o : Oper} {K : Act → World → Prop} {a : Act} {w : World} (ho : ops[i]? = some o)
    (h : ∀ K' : Act → World → Prop, (∀ a w, K a w → K' a w) → if Region.wanted o (yielded ops a.tmps) = true then Oper.wp P o a w K' Q else K' (a.put o.dst undef) w) : wpOpP P ops Q i K a w := by
  have := h K (fun _ _ h => h)
  unfold wpOpP
  rw [ho]
  exact this

/-- the wide fence, in a round or not -/
structure WideF (F : Fence) : Prop where
  fn : ∀ f, F.fn f
  depth : F.depth = none
  calls : ∀ {P : Program} {n f : Nat} {args : Array Value} {w : World} {R : Ending → World → Prop}, Calls P f args w R → CallsIn F n P f args w R
  rows : ∀ {P : Program} {n : Nat} {row : String} {args : Array Value} {w : World} {R : Value → World → Prop}, Rows P row args w R → RowsIn F n P row args w R
theorem rowsIn_wide {n : Nat} {row : String} {args : Array Value} {w : World} {R : Value → World → Prop} (h : Rows P row args w R) : RowsIn Fence.wide n P row args w R :=
  fun c cs _ => let ⟨v, w', r, s⟩ := h c cs; ⟨v, w', r, stepsIn_wide.2 s⟩
theorem WideF.wide : WideF Fence.wide := ⟨fun _ => trivial, rfl, fun h => callsIn_wide.2 h, fun h => rowsIn_wide h⟩
theorem WideF.round (l : Nat) : WideF (Fence.wide.inRound l) := ⟨fun _ => trivial, rfl, fun h => CallsIn.inRound l (callsIn_wide.2 h), fun h => rowsIn_wide h⟩

theorem wpIn_of_wp {F : Fence} (hF : WideF F) {o : Oper} (hd : ∀ c, o.op ≠ .defer c) {a : Act} {w : World} {K : Act → World → Prop} (h : o.wp P a w K Q) : o.wpIn F n P a w K Q := by
  unfold Oper.wpIn
  refine ⟨fun f _ => hF.fn f, ?_⟩
  rw [Oper.semAt_eq _ _ _ hd]
  unfold Oper.wp at h
  generalize (execOp a.eval o).run P w = r at *
  cases r with
  | ok x w' =>
    cases x <;> simp only [Oper.upon, Oper.uponIn] at h ⊢
    all_goals first
      | exact h
      | exact ⟨fun hh => by rw [hF.depth] at hh; simp at hh, hF.rows h⟩
      | exact False.elim h
      | skip
    refine ⟨fun hh => by rw [hF.depth] at hh; simp at hh, hF.calls (Calls.mono h ?_)⟩
    intro e w'' he
    cases e <;> exact he
  | halt x w' => cases x <;> simp only [Oper.upon, Oper.uponIn] at h ⊢ <;> exact h
def noDefer (ops : Array Oper) : Bool := ops.all fun o => match o.op with | .defer _ => false | _ => true
theorem noDefer_spec (h : noDefer ops = true) {i : Nat} {o : Oper} (ho : ops[i]? = some o) : ∀ c, o.op ≠ .defer c := by
  intro c e
  unfold noDefer at h
  rw [Array.all_eq_true_iff_forall_mem] at h
  have := h o (Array.mem_of_getElem? ho)
  rw [e] at this
  cases this
theorem wpOpIn_of_P {F : Fence} (hF : WideF F) (hnd : noDefer ops = true) {i : Nat} {a : Act} {w : World} {K : Act → World → Prop} (h : wpOpP P ops Q i K a w) : wpOpIn F n P ops Q i K a w := by
  unfold wpOpP at h
  unfold wpOpIn
  cases ho : ops[i]? with
  | none => rw [ho] at h; exact h
  | some o =>
    rw [ho] at h
    show if Region.wanted o (yielded ops a.tmps) = true then _ else _
    have h' : if Region.wanted o (yielded ops a.tmps) = true then o.wp P a w K Q else K (a.put o.dst undef) w := h
    split
    · rename_i hw; rw [if_pos hw] at h'; exact wpIn_of_wp hF (noDefer_spec hnd ho) h'
    · rename_i hw; rw [if_neg hw] at h'; exact ⟨fun f _ => hF.fn f, h'⟩

theorem wpAnyIn_inv {F : Fence} {md : Region.Mode} (I : Array Bool → Act → World → Prop) (hord : ordB md ops = true)
    (hstep : ∀ (listed : Array Bool) (a : Act) (w : World) (i : Nat) (o : Oper), listed.size = ops.size → ops[i]? = some o → listed.getD i true = false → (∀ e ∈ o.after, Region.binds md e = true → listed.getD e.on false = true) →
      I listed a w → wpOpIn F n P ops Q i (I (listed.setIfInBounds i true)) a w)
    (hend : ∀ (listed : Array Bool) (a : Act) (w : World), listed.size = ops.size → (∀ i, i < ops.size → listed.getD i false = true) → I listed a w → Q .normal a w) :
    ∀ (fuel : Nat) (listed : Array Bool) (a : Act) (w : World), listed.size = ops.size → unl listed ≤ fuel → I listed a w → wpAnyIn F n P md ops Q fuel listed a w := by
  intro fuel
  induction fuel with
  | zero =>
    intro listed a w hs hu hI
    have hall := all_of_unl (l := listed) (by omega)
    refine ⟨?_, hend _ _ _ hs (fun i hi => hall i (by omega)) hI⟩
    rw [List.eq_nil_iff_forall_not_mem]
    intro i hi
    obtain ⟨h0, o, ho, _⟩ := mem_ready.1 hi
    obtain ⟨hi', he⟩ := getD_lt h0
    have := hall i hi'
    simp [Array.getD, hi', he] at this
  | succ fuel ih =>
    intro listed a w hs hu hI
    refine ⟨fun hr => hend _ _ _ hs (all_of_ready hord hs hr) hI, fun i hi => ?_⟩
    obtain ⟨h0, o, ho, hp⟩ := mem_ready.1 hi
    refine wpOpIn_mono (fun a' w' h' => ih _ a' w' (by simpa using hs) (by have := unl_set h0; omega) h') (hstep listed a w i o hs ho h0 hp hI)

/-- each operation ahead of m yields a value; whoever comes at m or behind it waits for all ahead -/
def tailB (ops : Array Oper) (m : Nat) (vs : List (Nat × Nat)) (n : Nat) : Bool :=
  ordB .any ops && noDefer ops && decide (m ≤ ops.size) && decide ((vs.map (·.2)).Nodup) && decide ((vs.map (·.1)).Nodup) && vs.all (fun v => decide (v.1 < m) && decide (v.2 < n)) &&
  ((List.range m).all fun i => vs.any fun v => v.1 == i) && (decide (m = ops.size) || (List.range m).all fun j => (List.range (m + 1)).any fun i => decide (j < i) && depB ops i j) &&
  (List.range ops.size).all fun i => decide (i ≤ m) || depB ops i (i - 1)

/-- the values of all, put in -/
theorem fold_vals {vs : List ValD} {a a0 : Act} (hvinj : ∀ u ∈ vs, ∀ v ∈ vs, u.slot = v.slot → u = v) (hlt : ∀ v ∈ vs, v.slot < a0.tmps.size) (j2 : a.tmps.size = a0.tmps.size) (j3 : a.defers = a0.defers)
    (j4 : ∀ t, (vs.map (·.slot)).contains t = false → a.tmps[t]? = a0.tmps[t]?) (hX : ∀ v ∈ vs, ∃ x, a.tmps[v.slot]? = some x) :
    a = vs.foldl (fun b v => b.put (some v.slot) ((a.tmps[v.slot]?).getD undef)) a0 := by
  have hfv : ∀ (X : Nat → Value) (l : List ValD) (a1 : Act), (∀ v ∈ l, v.slot < a1.tmps.size) → (l.foldl (fun a v => a.put (some v.slot) (X v.slot)) a1).defers = a1.defers ∧ (l.foldl (fun a v => a.put (some v.slot) (X v.slot)) a1).tmps.size = a1.tmps.size ∧
      ∀ t, (l.foldl (fun a v => a.put (some v.slot) (X v.slot)) a1).tmps[t]? = if t ∈ l.map (·.slot) then some (X t) else a1.tmps[t]? := fun X l => by
    induction l with
    | nil => intro a1 _; exact ⟨rfl, rfl, fun t => by simp⟩
    | cons x xs ih =>
      intro a1 h
      have hx := h x (by simp)
      have hs : (a1.put (some x.slot) (X x.slot)).tmps.size = a1.tmps.size := by simp [Act.put]
      obtain ⟨h1, h2, h3⟩ := ih (a1.put (some x.slot) (X x.slot)) (fun b hb => by rw [hs]; exact h b (List.mem_cons_of_mem _ hb))
      simp only [List.foldl_cons]
      refine ⟨h1.trans rfl, h2.trans hs, fun t => ?_⟩
      rw [h3 t, act_put_get hx]
      simp only [List.map_cons, List.mem_cons]
      by_cases e : t ∈ xs.map (·.slot)
      · simp [e]
      · by_cases e2 : x.slot = t
        · subst e2; simp [e]
        · simp [e, e2, Ne.symm e2]
  obtain ⟨f1, f2, f3⟩ := hfv (fun t => (a.tmps[t]?).getD undef) vs a0 hlt
  have ht : a.tmps = (vs.foldl (fun b v => b.put (some v.slot) ((a.tmps[v.slot]?).getD undef)) a0).tmps := by
    apply Array.ext_getElem?
    intro t
    rw [f3 t]
    by_cases e : t ∈ vs.map (·.slot)
    · rw [if_pos e]
      obtain ⟨v, hv, rfl⟩ := List.mem_map.1 e
      obtain ⟨x, hx⟩ := hX v hv
      rw [hx]; rfl
    · rw [if_neg e]
      refine j4 t ?_
      cases hc : (vs.map (·.slot)).contains t with
      | false => rfl
      | true => rw [List.contains_iff_mem] at hc; exact absurd hc e
  have hdf := j3.trans f1.symm
  revert ht hdf
  generalize vs.foldl (fun b v => b.put (some v.slot) ((a.tmps[v.slot]?).getD undef)) a0 = a1
  cases a; cases a1
  intro ht hdf
  simp only at ht hdf
  subst ht hdf
  rfl

/-- E: how worlds follow on each other within the region (Eq: reads alone; Below: calls) -/
theorem wpAnyIn_tail {F : Fence} (hF : WideF F) (E : World → World → Prop) (hE0 : ∀ w, E w w) (hEt : ∀ a b c, E a b → E b c → E a c) {a0 : Act} {w0 : World} (vs : List ValD) (m : Nat) (hV : tailB ops m (vs.map fun v => (v.op, v.slot)) a0.tmps.size = true)
    (hsv : allP (fun v => ∀ x w w', E w w' → v.P x w → v.P x w') vs)
    (hval : allP (fun v => ∀ (a : Act) (w : World) K, E w0 w → (∀ t, (vs.map (·.slot)).contains t = false → a.tmps[t]? = a0.tmps[t]?) → (∀ (k : Nat) (u : ValD), vs[k]? = some u → depB ops v.op u.op = true → ∃ x, a.tmps[u.slot]? = some x ∧ u.P x w) →
      (∀ x w', E w w' → v.P x w' → K (a.put (some v.slot) x) w') → wpOpP P ops Q v.op K a w) vs)
    (hend : ∀ w (X : Nat → Value), E w0 w → allP (fun v => v.P (X v.slot) w) vs →
      wpListIn F n P ops Q (ops.toList.drop m) (vs.foldl (fun a v => a.put (some v.slot) (X v.slot)) a0) w) :
    wpAnyIn F n P .any ops Q ops.size (Array.replicate ops.size false) a0 w0 := by
  simp only [tailB, Bool.and_eq_true, decide_eq_true_eq, List.all_eq_true, List.map_map, Bool.or_eq_true] at hV
  obtain ⟨⟨⟨⟨⟨⟨⟨⟨hord, hnd⟩, hm⟩, n1⟩, n2⟩, n3⟩, n4⟩, n5⟩, n6⟩ := hV
  have v3 : ∀ v ∈ vs, v.op < m ∧ v.slot < a0.tmps.size := fun v hv => n3 (v.op, v.slot) (List.mem_map.2 ⟨v, hv, rfl⟩)
  have hvinj : ∀ u ∈ vs, ∀ v ∈ vs, u.slot = v.slot → u = v := fun u hu v hv e => nodup_inj (f := ValD.slot) (by have h := n1; exact h) hu hv e
  have hoinj : ∀ u ∈ vs, ∀ v ∈ vs, u.op = v.op → u = v := fun u hu v hv e => nodup_inj (f := ValD.op) (by have h := n2; exact h) hu hv e
  have hdep : ∀ {i j : Nat} {o : Oper} {listed : Array Bool}, ops[i]? = some o → (∀ e ∈ o.after, Region.binds .any e = true → listed.getD e.on false = true) → depB ops i j = true → listed.getD j false = true := fun {i j o listed} ho hp hd => by
    unfold depB at hd
    rw [ho] at hd
    simp only [Option.map_some, Option.getD_some, Array.any_eq_true'] at hd
    obtain ⟨e, he, h5⟩ := hd
    simp only [Bool.and_eq_true, beq_iff_eq] at h5
    exact h5.2 ▸ hp e he h5.1
  have hdl : ∀ {i j : Nat}, depB ops i j = true → i < ops.size := fun {i j} hd => by
    unfold depB at hd
    cases ho : ops[i]? with
    | none => rw [ho] at hd; simp at hd
    | some o => exact (Array.getElem?_eq_some_iff.1 ho).1
  -- the operations at m and behind it, in their order
  have hops : ∀ k, k ≤ ops.size → wpOpsIn F n P ops Q (List.range' k (ops.size - k)) = wpListIn F n P ops Q (ops.toList.drop k) := fun k hk => by
    have := wpOpsIn_eq_wpListIn (F := F) (n := n) (P := P) (ops := ops) (Q := Q) (ops.toList.drop k) k (fun j => by simp)
    rwa [List.length_drop, Array.length_toList] at this
  refine wpAnyIn_inv (fun listed a w => (∀ i o, ops[i]? = some o → listed.getD i false = true → ∀ e ∈ o.after, Region.binds .any e = true → listed.getD e.on false = true) ∧
      (((∀ i, m ≤ i → listed.getD i false = false) ∧ E w0 w ∧ a.tmps.size = a0.tmps.size ∧ a.defers = a0.defers ∧ (∀ t, (vs.map (·.slot)).contains t = false → a.tmps[t]? = a0.tmps[t]?) ∧
        ∀ v ∈ vs, listed.getD v.op false = true → ∃ x, a.tmps[v.slot]? = some x ∧ v.P x w) ∨
      ∃ k, m < k ∧ k ≤ ops.size ∧ (∀ j, j < ops.size → (listed.getD j false = true ↔ j < k)) ∧ wpOpsIn F n P ops Q (List.range' k (ops.size - k)) a w)) hord ?_ ?_ ops.size _ a0 w0 (by simp) (by unfold unl; exact Nat.le_trans List.countP_le_length (by simp)) ?_
  · rintro listed a w i o hsz ho hi hp ⟨hcl, h⟩
    have hil : i < ops.size := (Array.getElem?_eq_some_iff.1 ho).1
    have hset : ∀ j, (listed.setIfInBounds i true).getD j false = true ↔ j = i ∨ listed.getD j false = true := fun j => by
      by_cases e : i = j
      · subst e; simp [Array.getD, hsz, hil]
      · rw [getD_set_ne false e]; constructor
        · exact .inr
        · rintro (h | h)
          · exact absurd h.symm e
          · exact h
    have hcl' : ∀ j o', ops[j]? = some o' → (listed.setIfInBounds i true).getD j false = true → ∀ e ∈ o'.after, Region.binds .any e = true → (listed.setIfInBounds i true).getD e.on false = true := fun j o' hj hl e he hb => by
      rcases (hset j).1 hl with rfl | h2
      · rw [ho] at hj; cases hj
        exact (hset _).2 (.inr (hp e he hb))
      · exact (hset _).2 (.inr (hcl j o' hj h2 e he hb))
    have hpi : listed.getD i false = false := getD_false_of hi
    -- the tail's next operation
    have htail : ∀ k, k ≤ ops.size → m ≤ k → i = k → (∀ j, j < ops.size → (listed.getD j false = true ↔ j < k)) → wpOpsIn F n P ops Q (List.range' k (ops.size - k)) a w →
        wpOpIn F n P ops Q i (fun a' w' => (∀ i' o, ops[i']? = some o → (listed.setIfInBounds i true).getD i' false = true → ∀ e ∈ o.after, Region.binds .any e = true → (listed.setIfInBounds i true).getD e.on false = true) ∧
          (((∀ i', m ≤ i' → (listed.setIfInBounds i true).getD i' false = false) ∧ E w0 w' ∧ a'.tmps.size = a0.tmps.size ∧ a'.defers = a0.defers ∧ (∀ t, (vs.map (·.slot)).contains t = false → a'.tmps[t]? = a0.tmps[t]?) ∧
            ∀ v ∈ vs, (listed.setIfInBounds i true).getD v.op false = true → ∃ x, a'.tmps[v.slot]? = some x ∧ v.P x w') ∨
          ∃ k, m < k ∧ k ≤ ops.size ∧ (∀ j, j < ops.size → ((listed.setIfInBounds i true).getD j false = true ↔ j < k)) ∧ wpOpsIn F n P ops Q (List.range' k (ops.size - k)) a' w')) a w := fun k hk hmk hik hlt hw => by
      subst hik
      rw [show ops.size - i = (ops.size - (i + 1)) + 1 by omega, List.range'_succ, wpOpsIn_cons] at hw
      refine wpOpIn_mono (fun a' w' h' => ⟨hcl', .inr ⟨i + 1, by omega, by omega, fun j hj => ?_, h'⟩⟩) hw
      rw [hset j, hlt j hj]; omega
    rcases h with ⟨h1, j1, j2, j3, j4, j5⟩ | ⟨k, hk1, hk2, hk3, hk4⟩
    · by_cases him : i < m
      · have h5 := n4 i (List.mem_range.2 him)
        rw [List.any_eq_true] at h5
        obtain ⟨q, hq, he⟩ := h5
        simp only [beq_iff_eq] at he
        obtain ⟨v, hv, rfl⟩ := List.mem_map.1 hq
        subst he
        refine wpOpIn_of_P hF hnd (hval.mem v hv a w _ j1 j4 (fun k u hu hd => j5 u (List.mem_of_getElem? hu) (hdep ho hp hd)) (fun x w' hbl hx => ⟨hcl', .inl ⟨fun i' hi' => ?_, hEt _ _ _ j1 hbl, by simp [Act.put, j2], j3, fun t ht => ?_, fun u hu hl => ?_⟩⟩))
        · rw [getD_set_ne false (by have := (v3 v hv).1; show v.op ≠ i'; omega)]; exact h1 i' hi'
        · have hne : v.slot ≠ t := fun e => by
            have hc : (vs.map (·.slot)).contains t = true := by
              rw [List.contains_iff_mem]; exact List.mem_map.2 ⟨_, hv, e⟩
            rw [hc] at ht; cases ht
          show (a.tmps.setIfInBounds v.slot _)[t]? = _
          rw [Array.getElem?_setIfInBounds_ne hne]; exact j4 t ht
        · by_cases e : u = v
          · subst e
            refine ⟨x, ?_, hx⟩
            show (a.tmps.setIfInBounds u.slot x)[u.slot]? = _
            simp [j2, (v3 u hu).2]
          · have hne : v.op ≠ u.op := fun e' => e (hoinj u hu v hv e'.symm)
            have hl' : listed.getD u.op false = true := by
              rcases (hset u.op).1 hl with h | h
              · exact absurd h.symm hne
              · exact h
            obtain ⟨y, hy, hpy⟩ := j5 u hu hl'
            refine ⟨y, ?_, hsv.mem u hu y _ _ hbl hpy⟩
            show (a.tmps.setIfInBounds v.slot x)[u.slot]? = _
            rw [Array.getElem?_setIfInBounds_ne (fun e' => e (hvinj u hu v hv e'.symm))]; exact hy
      · by_cases hie : i = m
        · -- all ahead of m have come up
          have hall : ∀ d j, m - j = d → j < m → listed.getD j false = true := by
            intro d
            induction d using Nat.strongRecOn with
            | _ d ih =>
              intro j hd hj
              rcases n5 with h | h
              · omega
              · have := h j (List.mem_range.2 hj)
                rw [List.any_eq_true] at this
                obtain ⟨i', hi', h2⟩ := this
                simp only [Bool.and_eq_true, decide_eq_true_eq] at h2
                have hi2 := List.mem_range.1 hi'
                by_cases e : i' = m
                · subst e
                  subst hie
                  exact hdep ho hp h2.2
                · have h3 := ih (m - i') (by omega) i' rfl (by omega)
                  obtain ⟨o', ho'⟩ : ∃ o', ops[i']? = some o' := ⟨ops[i']'(by omega), by simp⟩
                  exact hdep ho' (fun e he hb => hcl i' o' ho' h3 e he hb) h2.2
          have hX : ∀ v ∈ vs, ∃ x, a.tmps[v.slot]? = some x ∧ v.P x w := fun v hv => j5 v hv (hall _ _ rfl (v3 v hv).1)
          have hfin := fold_vals hvinj (fun v hv => (v3 v hv).2) j2 j3 j4 (fun v hv => by obtain ⟨x, hx, _⟩ := hX v hv; exact ⟨x, hx⟩)
          have := hend w (fun t => (a.tmps[t]?).getD undef) j1 (allP.of fun v hv => by obtain ⟨x, hx, hp⟩ := hX v hv; simp only [hx, Option.getD_some]; exact hp)
          rw [← hfin, ← hops m hm] at this
          refine htail m hm (Nat.le_refl _) hie (fun j hj => ?_) this
          constructor
          · intro hl
            refine Nat.lt_of_not_le fun hc => ?_
            rw [h1 j hc] at hl; cases hl
          · intro hl; exact hall _ _ rfl hl
        · exfalso
          have := n6 i (List.mem_range.2 hil)
          rcases this with h | h
          · omega
          · have := hdep ho hp h
            rw [h1 (i - 1) (by omega)] at this; cases this
    · have hik : i = k := by
        have h1 : ¬ i < k := fun h => by rw [(hk3 i hil).2 h] at hpi; cases hpi
        by_cases e : i = k
        · exact e
        · exfalso
          have := n6 i (List.mem_range.2 hil)
          rcases this with h | h
          · omega
          · have h2 := (hk3 (i - 1) (by omega)).1 (hdep ho hp h)
            omega
      exact htail k hk2 (by omega) hik hk3 hk4
  · rintro listed a w hsz hall ⟨hcl, h⟩
    rcases h with ⟨h1, j1, j2, j3, j4, j5⟩ | ⟨k, hk1, hk2, hk3, hk4⟩
    · have hms : m = ops.size := by
        rcases (by omega : m = ops.size ∨ m < ops.size) with h | h
        · exact h
        · have := hall m h
          rw [h1 m (Nat.le_refl _)] at this; cases this
      have hX : ∀ v ∈ vs, ∃ x, a.tmps[v.slot]? = some x ∧ v.P x w := fun v hv => j5 v hv (hall _ (by have := (v3 v hv).1; omega))
      have hfin := fold_vals hvinj (fun v hv => (v3 v hv).2) j2 j3 j4 (fun v hv => by obtain ⟨x, hx, _⟩ := hX v hv; exact ⟨x, hx⟩)
      have := hend w (fun t => (a.tmps[t]?).getD undef) j1 (allP.of fun v hv => by obtain ⟨x, hx, hp⟩ := hX v hv; simp only [hx, Option.getD_some]; exact hp)
      rw [← hfin, List.drop_eq_nil_of_le (by simp; omega)] at this
      exact this
    · have hke : k = ops.size := by
        rcases (by omega : k = ops.size ∨ k < ops.size) with h | h
        · exact h
        · have := (hk3 k h).1 (hall k h); omega
      rw [hke, Nat.sub_self] at hk4
      exact hk4
  · refine ⟨fun i o ho hl => ?_, (.inl ⟨fun i _ => ?_, hE0 _, rfl, rfl, fun _ _ => rfl, fun v hv h => ?_⟩)⟩
    · exfalso; revert hl; simp only [Array.getD]; split <;> simp
    · simp only [Array.getD]; split <;> simp
    · exfalso; revert h; simp only [Array.getD]; split <;> simp
/-- a scope in the body of a range over a function, no jump to its label -/
theorem stepR_scope {b : Frame} {a : Act} {k : List Item} {cs : List Frame} {w : World} {c : Code} : step P (lone (b.atR a (.code (.scope c) :: k)) cs w) = .next (lone (b.atR a (.code c :: .inScope c :: k)) cs w) :=
  step_lone_go (by simp [stepG, stepG.exec, Frame.atR])
theorem stepR_inScope {b : Frame} {a : Act} {k : List Item} {cs : List Frame} {w : World} {c : Code} : step P (lone (b.atR a (.inScope c :: k)) cs w) = .next (lone (b.atR a k) cs w) :=
  step_lone_go (by simp [stepG, stepG.exec, Frame.atR])
theorem wpIn_scope_straight {F : Fence} {a : Act} {w : World} {c : Code} (h : c.wpIn F n P (Exit.noGoto Q) a w) : (Code.scope c).wpIn F n P Q a w := by
  intro b k cs hro hb hr
  have h0 : (lone (b.atR a (.code (.scope c) :: k)) cs w).fenced P F := fenced_calm hb hr rfl
  obtain ⟨e, a₁, w₁, hq, harr⟩ := h b (.inScope c :: k) cs hro hb hr
  cases e with
  | normal => exact ⟨.normal, a₁, w₁, hq, .head h0 stepR_scope (StepsIn.trans harr (.one (fenced_calm hb hr rfl) stepR_inScope))⟩
  | exit id => exact ⟨.exit id, a₁, w₁, hq, fun k' hk => .head h0 stepR_scope (harr.1 k' (by simp [exitTo, hk])), fun hr' hk => let ⟨k₁, h1, h2⟩ := harr.2 hr' (by simp [exitTo, hk]); ⟨k₁, h1, .head h0 stepR_scope h2⟩⟩
  | goto l => exact hq.elim
  | ret => exact ⟨_, a₁, w₁, hq, .of_steps (.one h0 stepR_scope) harr⟩
  | panic ch => exact ⟨_, a₁, w₁, hq, .of_steps (.one h0 stepR_scope) harr⟩
  | outgrown => exact ⟨_, a₁, w₁, hq, .of_steps (.one h0 stepR_scope) harr⟩
end
end Go.Proofs.YtjdiilkljgljkaaGreatDoor
