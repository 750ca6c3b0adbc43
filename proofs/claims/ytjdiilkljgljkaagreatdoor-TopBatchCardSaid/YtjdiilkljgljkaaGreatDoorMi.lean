/- Part i of the lemmas of TopBatch: contracts of functions of the program, and plain laws of numbers, bytes and memory. -/
import Derived.Test.YtjdiilkljgljkaaGreatDoorMc
import Derived.Test.YtjdiilkljgljkaaGreatDoorMh
import Derived.ScopeJumps
import Derived.Shelf.Bytes.SlEqualAll
import Derived.Lib.Hide
import Derived.Test.YtjdiilkljgljkaaGreatDoorMb
import Derived.Lib.Strings
import Derived.Lib.Slices
import Derived.Lib.Small
import Derived.Lib.Walk
import Derived.Lib.BitFns
import Derived.Test.YtjdiilkljgljkaaGreatDoorMa
set_option maxHeartbeats 4000000
namespace Go.Proofs.YtjdiilkljgljkaaGreatDoor
set_option linter.unusedVariables false
set_option linter.unusedSimpArgs false
open Go.RowKit Wd
structure Rg1 (w : World) (b o : Nat) (d : Bool) (v : Int) (q : Option Addr × Nat × Nat) : Prop where
 lt : b < w.heap.size
 c0 : w.cell? ⟨b, o, none⟩ = some (.bool d)
 c1 : w.cell? ⟨b, o + 1, none⟩ = some (.int .i64 v)
 c2 : w.cell? ⟨b, o + 2, none⟩ = some (.slice q.1 q.2.1 q.2.2)
theorem Rg1.below {w w' : World} {B b o : Nat} {d : Bool} {v : Int} {q : Option Addr × Nat × Nat} (h : Rg1 w b o d v q) (hb : Below B w w') (hB : w.heap.size ≤ B) : Rg1 w' b o d v q := by
 have hlt := h.lt
 exact ⟨Nat.lt_of_lt_of_le h.lt hb.size, (hb.cell (p := ⟨b, o, none⟩) (by show b < B; omega)).trans h.c0, (hb.cell (p := ⟨b, o + 1, none⟩) (by show b < B; omega)).trans h.c1, (hb.cell (p := ⟨b, o + 2, none⟩) (by show b < B; omega)).trans h.c2⟩
structure Qu1 (w : World) (b o : Nat) (x y z : Int) : Prop where
 lt : b < w.heap.size
 c0 : w.cell? ⟨b, o, none⟩ = some (.int .i64 x)
 c1 : w.cell? ⟨b, o + 1, none⟩ = some (.int .i64 y)
 c2 : w.cell? ⟨b, o + 2, none⟩ = some (.int .u64 z)
theorem Qu1.below {w w' : World} {B b o : Nat} {x y z : Int} (h : Qu1 w b o x y z) (hb : Below B w w') (hB : b < B) : Qu1 w' b o x y z :=
 ⟨Nat.lt_of_lt_of_le h.lt hb.size, (hb.cell (p := ⟨b, o, none⟩) hB).trans h.c0, (hb.cell (p := ⟨b, o + 1, none⟩) hB).trans h.c1, (hb.cell (p := ⟨b, o + 2, none⟩) hB).trans h.c2⟩
def OpN (op p : Int) (np nq : Nat) : Prop := (op = 4 ∧ p = 0 ∧ np = 1 ∧ nq = 0) ∨ (op = 5 ∧ 1 ≤ p ∧ p ≤ 4096 ∧ np = 0 ∧ (nq : Int) = p)
def reqB (op : Int) (n : Nat) (d : Nat → Bool) (v : Nat → Int) (p : Int) (Q : Nat → Option Addr × Nat × Nat) (F G : Nat → Nat → Int) (np : Nat) (f g : Nat → Int) (nq : Nat) (qf qg qd : Nat → Int) : List Int :=
 hdrB op n d v p ++ rgsB Q F G n ++ ptsB f g np ++ qusB qf qg qd nq
theorem ZbX {op p : Int} {n : Nat} {d : Nat → Bool} {v : Nat → Int} (hn : n ≤ 64) : (hdrB op n d v p).length ≤ 68 := by
 have : (ptsN op p).length ≤ 2 := by unfold ptsN; split <;> simp
 simp [hdrB, Jn]; omega
theorem Zey (op p : Int) (np nq : Nat) (hop : OpN op p np nq) (A : Option Addr) (n c : Nat) (d : Nat → Bool) (v : Nat → Int) (Q : Nat → Option Addr × Nat × Nat) (ho : OkK n v) (hq : ∀ k, k < n → (Q k).2.1 = 0) (w : World) (hr : Rgs w A n c d v Q) :
  Calls Tryz.prog 43 #[.agg #[.int .i64 op, .int .i64 0, .slice A n c, .int .i64 p]] w fun e w' => (∃ v', e = .returned (.tuple #[v', .int .i64 0]) ∧ OwB w' w.heap.size v' (hdrB op n d v p)) ∧ Below w.heap.size w w' := by
 rcases hop with ⟨rfl, rfl, -, -⟩ | ⟨rfl, h1, h2, -, -⟩
 ·exact Zex A n c d v Q ho hq w hr
 ·exact Zc2 p h1 h2 A n c d v Q ho hq w hr
set_option maxRecDepth 100000 in
theorem Zez (op p : Int) (np nq : Nat) (hop : OpN op p np nq) (A : Option Addr) (n c : Nat) (w : World) :
  Calls Tryz.prog 51 #[.agg #[.int .i64 op, .int .i64 0, .slice A n c, .int .i64 p]] w fun e w' => e = .returned (.tuple #[.int .i64 (np : Int), .int .i64 (nq : Int)]) ∧ Below w.heap.size w w' := by
 rcases hop with ⟨rfl, rfl, rfl, rfl⟩ | ⟨rfl, h1, h2, rfl, hq⟩
 ·go_enter Tryz.func51, Tryz.ntmps51
  go_wp2_with fail
  go_ret2
  exact ⟨rfl, J8 J0⟩
 ·subst hq
  clear h1 h2
  go_enter Tryz.func51, Tryz.ntmps51
  go_wp2_with fail
  go_quiet (fail)
  go_wp2_with fail
  go_ret2
  exact ⟨rfl, JH (J8 J0)⟩
set_option maxHeartbeats 40000000 in
set_option maxRecDepth 100000 in
theorem ZeA (op p : Int) (np nq : Nat) (hop : OpN op p np nq) (HA : Option Addr) (hc : Nat) (Qh : Nat → Option Addr × Nat × Nat) (A : Option Addr) (n c : Nat) (d : Nat → Bool) (v : Nat → Int) (Q : Nat → Option Addr × Nat × Nat) (F G : Nat → Nat → Int) (PA : Option Addr) (pc : Nat) (f g : Nat → Int) (QA : Option Addr) (qc : Nat) (qf qg qd : Nat → Int) (w : World)
  (hh : Rgs w HA n hc d v Qh) (hq : ∀ k, k < n → (Qh k).2.1 = 0) (hr : Rgs w A n c d v Q) (hp : RgP w n Q F G) (ho : OkR n v Q) (hpp : Pts w PA np pc f g) (hqq : Qus w QA nq qc qf qg qd) :
  Calls Tryz.prog 29 #[.agg #[.int .i64 op, .int .i64 0, .slice HA n hc, .int .i64 p, .slice A n c, .slice PA np pc, .slice QA nq qc]] w fun e w' => (∃ v', e = .returned (.tuple #[v', .int .i64 0]) ∧ OwB w' w.heap.size v' (reqB op n d v p Q F G np f g nq qf qg qd)) ∧ Below w.heap.size w w' := by
 have HOP := η hop
 have HNP := η (show np ≤ 1 ∧ nq ≤ 4096 from by rcases hop with ⟨_, _, h, h'⟩ | ⟨_, _, _, h, h'⟩ <;> omega)
 have HH := η hh; have HQ := η hq; have HR := η hr; have HP := η hp; have HO := η ho; have HPP := η hpp; have HQQ := η hqq
 have hcp := hr.cap
 have hmx := hr.max
 have hcp2 := hh.cap
 have hmx2 := hh.max
 have hcp3 := hpp.cap
 have hmx3 := hpp.max
 have hcp4 := hqq.cap
 have hmx4 := hqq.max
 have h1 := ho.pos
 have h2 := ho.le
 clear hop hh hq hr hp ho hpp hqq
 unfold maxLen at hmx hmx2 hmx3 hmx4
 obtain ⟨b, off, rfl, hbl, hc_⟩ := HR.out.at_ (by omega)
 have HC := η hc_; have HBL := η hbl; clear hc_ hbl
 obtain ⟨hb_, hoff, rfl, hhl, hhc⟩ := HH.out.at_ (by omega)
 have HHC := η hhc; have HHL := η hhl; clear hhc hhl
 go_enter Tryz.func29, Tryz.ntmps29
 go_wp2_with fail
 have HX := η (Bx.new w #[.int .i64 op, .int .i64 0, .slice (some ⟨hb_, hoff, none⟩) n hc, .int .i64 p, .slice (some ⟨b, off, none⟩) n c, .slice PA np pc, .slice QA nq qc] 32)
 have HB1 := η (show Below w.heap.size w (w.alloc (.cells #[.int .i64 op, .int .i64 0, .slice (some ⟨hb_, hoff, none⟩) n hc, .int .i64 p, .slice (some ⟨b, off, none⟩) n c, .slice PA np pc, .slice QA nq qc] 32)) from J8 J0)
 generalize w.alloc (.cells #[.int .i64 op, .int .i64 0, .slice (some ⟨hb_, hoff, none⟩) n hc, .int .i64 p, .slice (some ⟨b, off, none⟩) n c, .slice PA np pc, .slice QA nq qc] 32) = w1 at *
 have c0 := HX.out.cell 0 (v := .int .i64 op) rfl; have c1 := HX.out.cell 1 (v := .int .i64 0) rfl; have c2 := HX.out.cell 2 (v := .slice (some ⟨hb_, hoff, none⟩) n hc) rfl; have c3 := HX.out.cell 3 (v := .int .i64 p) rfl
 go_wp2_with fail
 clear c0 c1 c2 c3
 refine (Zey op p np nq HOP.out _ n hc d v Qh HO.out.toOkK HQ.out _ (HH.out.below HB1.out ν)).mono ?_
 rintro e w2 ⟨⟨v', rfl, ho2⟩, B⟩
 have HX2 := η (HX.out.below B ν); have HB12 := η B; have HO2 := η ho2; clear B ho2
 have c0 := HX2.out.cell 0 (v := .int .i64 op) rfl; have c1 := HX2.out.cell 1 (v := .int .i64 0) rfl; have c2 := HX2.out.cell 2 (v := .slice (some ⟨hb_, hoff, none⟩) n hc) rfl; have c3 := HX2.out.cell 3 (v := .int .i64 p) rfl
 go_wp2_with fail
 clear c0 c1 c2 c3
 refine (Zez op p np nq HOP.out _ n hc _).mono ?_
 rintro e w3 ⟨rfl, B⟩
 have HX3 := η (HX2.out.below B ν); have HB13 := η (HB12.out.trans (B.mono HB12.out.size)); have HO3 := η (HO2.out.below B ν); clear B HX2 HB12 HO2
 have c0 := HX3.out.cell 0 (v := .int .i64 op) rfl; have c1 := HX3.out.cell 1 (v := .int .i64 0) rfl; have c2 := HX3.out.cell 2 (v := .slice (some ⟨hb_, hoff, none⟩) n hc) rfl; have c3 := HX3.out.cell 3 (v := .int .i64 p) rfl; have c4 := HX3.out.cell 4 (v := .slice (some ⟨b, off, none⟩) n c) rfl; have c5 := HX3.out.cell 5 (v := .slice PA np pc) rfl; have c6 := HX3.out.cell 6 (v := .slice QA nq qc) rfl
 go_wp2_with fail
 clear c0 c1 c2 c3 c4 c5 c6
 go_loopw [8] (fun ir wr => ∃ k : Nat, k ≤ n ∧ ir = .int .i64 (k : Int) ∧ Below w3.heap.size w3 wr) (fun i _ => n - (intOf i).toNat)
 case atStart => exact ⟨0, by omega, rfl, J0⟩
 case round =>
  obtain ⟨k, hk, rfl, hb⟩ := hrel
  have HBR := η hb; clear hb
  have HXR := η (HX3.out.below HBR.out ν)
  have HB := η (HB1.out.trans ((HB13.out.trans (HBR.out.mono HB13.out.size)).mono HB1.out.size))
  have c4 := HXR.out.cell 4 (v := .slice (some ⟨b, off, none⟩) n c) rfl
  by_cases hlt : k < n
  ·have hms := η (show n - (intOf (.int .i64 ((k : Int) + 1))).toNat < n - (intOf (.int .i64 (k : Int))).toNat from by simp [intOf]; omega)
   have FR := η (show Rg1 wr b (off + k * 3) (d k) (v k) (Q k) from (Rg1.mk HBL.out (HC.out k hlt).1 (HC.out k hlt).2.1 (HC.out k hlt).2.2).below HB.out ν)
   have FH := η (show Rg1 wr hb_ (hoff + k * 3) (d k) (v k) (Qh k) from (Rg1.mk HHL.out (HHC.out k hlt).1 (HHC.out k hlt).2.1 (HHC.out k hlt).2.2).below HB.out ν)
   go_wp2_with fail
   clear c4
   have HNE := η (show (!((((Q k).2.1 : Nat) : Int) == szf (v k))) = false from by rw [HO.out.num k hlt]; simp)
   refine (wpIn_wide (n := 0)).1 ?_
   refine wpIn_region_any (by kernel_rfl) ?_
   change wpAnyIn _ _ _ _ _ _ _ _ _ (World.drew _)
   have RB5 := η (Je wr)
   refine Jk WideF.wide (fun a b => Below a.heap.size a b) (fun _ => J0) (fun _ _ _ h k => J6 h k) [⟨0, 57, fun z_ _ => z_ = .pointer (some ⟨w.heap.size, 4, none⟩)⟩, ⟨1, 58, fun z_ _ => z_ = .slice (some ⟨b, off, none⟩) n c⟩, ⟨2, 59, fun z_ _ => z_ = .int .i64 (k : Int)⟩, ⟨3, 60, fun z_ _ => z_ = .pointer (some ⟨b, off + k * 3, none⟩)⟩, ⟨4, 61, fun z_ _ => z_ = .pointer (some ⟨b, off + k * 3 + 2, none⟩)⟩, ⟨5, 62, fun z_ _ => z_ = .slice (Q k).1 (Q k).2.1 (Q k).2.2⟩, ⟨6, 63, fun z_ _ => z_ = .int .i64 (((Q k).2.1 : Nat) : Int)⟩, ⟨7, 64, fun z_ _ => z_ = .pointer (some ⟨w.heap.size, 0, none⟩)⟩, ⟨8, 65, fun z_ _ => z_ = .pointer (some ⟨w.heap.size, 2, none⟩)⟩, ⟨9, 66, fun z_ _ => z_ = .slice (some ⟨hb_, hoff, none⟩) n hc⟩, ⟨10, 67, fun z_ _ => z_ = .int .i64 (k : Int)⟩, ⟨11, 68, fun z_ _ => z_ = .pointer (some ⟨hb_, hoff + k * 3, none⟩)⟩, ⟨12, 69, fun z_ _ => z_ = .pointer (some ⟨hb_, hoff + k * 3 + 1, none⟩)⟩, ⟨13, 70, fun z_ _ => z_ = .int .i64 (v k)⟩, ⟨14, 71, fun z_ _ => z_ = .int .i64 (szf (v k))⟩, ⟨15, 72, fun z_ _ => z_ = .bool false⟩] 16 (by kernel_rfl) ?_ ?_ ?_
   ·refine ⟨?_, ?_, ?_, ?_, ?_, ?_, ?_, ?_, ?_, ?_, ?_, ?_, ?_, ?_, ?_, ?_, trivial⟩
    all_goals (intro x w w' hb h; first | exact h | (obtain ⟨b_, h1, h2⟩ := h; exact ⟨b_, h1, h2.below hb ν⟩))
   ·refine ⟨?_, ?_, ?_, ?_, ?_, ?_, ?_, ?_, ?_, ?_, ?_, ?_, ?_, ?_, ?_, ?_, trivial⟩
    ·intro a wz K hb ht hd hK
     have hbw := η (J6 RB5.out hb); clear hb
     have hx1 := (ht 1 rfl).trans rfl
     have es1 : a.tmps.getD 1 undef = _ := J7 hx1; clear hx1
     clear ht hd
     have HK := η hK; clear hK
     refine oP (fun K' HK' => ?_)
     go_simp
     exact HK'.out _ _ (HK.out _ _ J0 rfl)
    ·intro a wz K hb ht hd hK
     have hbw := η (J6 RB5.out hb); clear hb
     obtain ⟨x57, hx57, hp57⟩ := hd 0 _ rfl (by kernel_rfl)
     obtain rfl := hp57
     have es57 : a.tmps.getD 57 undef = _ := J7 hx57; clear hx57
     clear ht hd
     have zc0 := (HXR.out.below hbw.out ν).cell 4 (v := .slice (some ⟨b, off, none⟩) n c) rfl
     have HK := η hK; clear hK
     refine oP (fun K' HK' => ?_)
     go_simp
     exact HK'.out _ _ (HK.out _ _ J0 rfl)
    ·intro a wz K hb ht hd hK
     have hbw := η (J6 RB5.out hb); clear hb
     have hx8 := (ht 8 rfl).trans rfl
     have es8 : a.tmps.getD 8 undef = _ := J7 hx8; clear hx8
     clear ht hd
     have HK := η hK; clear hK
     refine oP (fun K' HK' => ?_)
     go_simp
     exact HK'.out _ _ (HK.out _ _ J0 rfl)
    ·intro a wz K hb ht hd hK
     have hbw := η (J6 RB5.out hb); clear hb
     obtain ⟨x58, hx58, hp58⟩ := hd 1 _ rfl (by kernel_rfl)
     obtain rfl := hp58
     have es58 : a.tmps.getD 58 undef = _ := J7 hx58; clear hx58
     obtain ⟨x59, hx59, hp59⟩ := hd 2 _ rfl (by kernel_rfl)
     obtain rfl := hp59
     have es59 : a.tmps.getD 59 undef = _ := J7 hx59; clear hx59
     clear ht hd
     have HK := η hK; clear hK
     refine oP (fun K' HK' => ?_)
     go_simp
     exact HK'.out _ _ (HK.out _ _ J0 rfl)
    ·intro a wz K hb ht hd hK
     have hbw := η (J6 RB5.out hb); clear hb
     obtain ⟨x60, hx60, hp60⟩ := hd 3 _ rfl (by kernel_rfl)
     obtain rfl := hp60
     have es60 : a.tmps.getD 60 undef = _ := J7 hx60; clear hx60
     clear ht hd
     have HK := η hK; clear hK
     refine oP (fun K' HK' => ?_)
     go_simp
     exact HK'.out _ _ (HK.out _ _ J0 rfl)
    ·intro a wz K hb ht hd hK
     have hbw := η (J6 RB5.out hb); clear hb
     obtain ⟨x61, hx61, hp61⟩ := hd 4 _ rfl (by kernel_rfl)
     obtain rfl := hp61
     have es61 : a.tmps.getD 61 undef = _ := J7 hx61; clear hx61
     clear ht hd
     have zc0 := (FR.out.below hbw.out ν).c2
     have HK := η hK; clear hK
     refine oP (fun K' HK' => ?_)
     go_simp
     exact HK'.out _ _ (HK.out _ _ J0 rfl)
    ·intro a wz K hb ht hd hK
     have hbw := η (J6 RB5.out hb); clear hb
     obtain ⟨x62, hx62, hp62⟩ := hd 5 _ rfl (by kernel_rfl)
     obtain rfl := hp62
     have es62 : a.tmps.getD 62 undef = _ := J7 hx62; clear hx62
     clear ht hd
     have HK := η hK; clear hK
     refine oP (fun K' HK' => ?_)
     go_simp
     exact HK'.out _ _ (HK.out _ _ J0 rfl)
    ·intro a wz K hb ht hd hK
     have hbw := η (J6 RB5.out hb); clear hb
     have hx1 := (ht 1 rfl).trans rfl
     have es1 : a.tmps.getD 1 undef = _ := J7 hx1; clear hx1
     clear ht hd
     have HK := η hK; clear hK
     refine oP (fun K' HK' => ?_)
     go_simp
     exact HK'.out _ _ (HK.out _ _ J0 rfl)
    ·intro a wz K hb ht hd hK
     have hbw := η (J6 RB5.out hb); clear hb
     obtain ⟨x64, hx64, hp64⟩ := hd 7 _ rfl (by kernel_rfl)
     obtain rfl := hp64
     have es64 : a.tmps.getD 64 undef = _ := J7 hx64; clear hx64
     clear ht hd
     have HK := η hK; clear hK
     refine oP (fun K' HK' => ?_)
     go_simp
     exact HK'.out _ _ (HK.out _ _ J0 rfl)
    ·intro a wz K hb ht hd hK
     have hbw := η (J6 RB5.out hb); clear hb
     obtain ⟨x65, hx65, hp65⟩ := hd 8 _ rfl (by kernel_rfl)
     obtain rfl := hp65
     have es65 : a.tmps.getD 65 undef = _ := J7 hx65; clear hx65
     clear ht hd
     have zc0 := (HXR.out.below hbw.out ν).cell 2 (v := .slice (some ⟨hb_, hoff, none⟩) n hc) rfl
     have HK := η hK; clear hK
     refine oP (fun K' HK' => ?_)
     go_simp
     exact HK'.out _ _ (HK.out _ _ J0 rfl)
    ·intro a wz K hb ht hd hK
     have hbw := η (J6 RB5.out hb); clear hb
     have hx8 := (ht 8 rfl).trans rfl
     have es8 : a.tmps.getD 8 undef = _ := J7 hx8; clear hx8
     clear ht hd
     have HK := η hK; clear hK
     refine oP (fun K' HK' => ?_)
     go_simp
     exact HK'.out _ _ (HK.out _ _ J0 rfl)
    ·intro a wz K hb ht hd hK
     have hbw := η (J6 RB5.out hb); clear hb
     obtain ⟨x66, hx66, hp66⟩ := hd 9 _ rfl (by kernel_rfl)
     obtain rfl := hp66
     have es66 : a.tmps.getD 66 undef = _ := J7 hx66; clear hx66
     obtain ⟨x67, hx67, hp67⟩ := hd 10 _ rfl (by kernel_rfl)
     obtain rfl := hp67
     have es67 : a.tmps.getD 67 undef = _ := J7 hx67; clear hx67
     clear ht hd
     have HK := η hK; clear hK
     refine oP (fun K' HK' => ?_)
     go_simp
     exact HK'.out _ _ (HK.out _ _ J0 rfl)
    ·intro a wz K hb ht hd hK
     have hbw := η (J6 RB5.out hb); clear hb
     obtain ⟨x68, hx68, hp68⟩ := hd 11 _ rfl (by kernel_rfl)
     obtain rfl := hp68
     have es68 : a.tmps.getD 68 undef = _ := J7 hx68; clear hx68
     clear ht hd
     have HK := η hK; clear hK
     refine oP (fun K' HK' => ?_)
     go_simp
     exact HK'.out _ _ (HK.out _ _ J0 rfl)
    ·intro a wz K hb ht hd hK
     have hbw := η (J6 RB5.out hb); clear hb
     obtain ⟨x69, hx69, hp69⟩ := hd 12 _ rfl (by kernel_rfl)
     obtain rfl := hp69
     have es69 : a.tmps.getD 69 undef = _ := J7 hx69; clear hx69
     clear ht hd
     have zc0 := (FH.out.below hbw.out ν).c1
     have HK := η hK; clear hK
     refine oP (fun K' HK' => ?_)
     go_simp
     exact HK'.out _ _ (HK.out _ _ J0 rfl)
    ·intro a wz K hb ht hd hK
     have hbw := η (J6 RB5.out hb); clear hb
     obtain ⟨x70, hx70, hp70⟩ := hd 13 _ rfl (by kernel_rfl)
     obtain rfl := hp70
     have es70 : a.tmps.getD 70 undef = _ := J7 hx70; clear hx70
     clear ht hd
     have HK := η hK; clear hK
     refine oP (fun K' HK' => ?_)
     go_simp
     refine (Zb0 (v k) _).mono ?_
     rintro e w1 ⟨rfl, rfl⟩
     go_wp2_with fail
     exact HK'.out _ _ (HK.out _ _ J0 rfl)
    ·intro a wz K hb ht hd hK
     have hbw := η (J6 RB5.out hb); clear hb
     obtain ⟨x63, hx63, hp63⟩ := hd 6 _ rfl (by kernel_rfl)
     obtain rfl := hp63
     have es63 : a.tmps.getD 63 undef = _ := J7 hx63; clear hx63
     obtain ⟨x71, hx71, hp71⟩ := hd 14 _ rfl (by kernel_rfl)
     obtain rfl := hp71
     have es71 : a.tmps.getD 71 undef = _ := J7 hx71; clear hx71
     clear ht hd
     have HK := η hK; clear hK
     refine oP (fun K' HK' => ?_)
     go_simp
     exact HK'.out _ _ (HK.out _ _ J0 (congrArg Value.bool HNE.out))
   intro w6 X hb hv
   simp only [List.foldl_cons, List.foldl_nil, Act.put, List.setIfInBounds_toArray, List.set_cons_zero, List.set_cons_succ, List.toList_toArray, List.drop_succ_cons, List.drop_zero]
   obtain ⟨hv0, hv1, hv2, hv3, hv4, hv5, hv6, hv7, hv8, hv9, hv10, hv11, hv12, hv13, hv14, hv15, -⟩ := hv
   have hV0 : (fun z_ _ => z_ = .pointer (some ⟨w.heap.size, 4, none⟩)) (X 57) w6 := hv0; clear hv0; have hv0 := hV0; clear hV0; generalize X 57 = X57 at *
   have hV1 : (fun z_ _ => z_ = .slice (some ⟨b, off, none⟩) n c) (X 58) w6 := hv1; clear hv1; have hv1 := hV1; clear hV1; generalize X 58 = X58 at *
   have hV2 : (fun z_ _ => z_ = .int .i64 (k : Int)) (X 59) w6 := hv2; clear hv2; have hv2 := hV2; clear hV2; generalize X 59 = X59 at *
   have hV3 : (fun z_ _ => z_ = .pointer (some ⟨b, off + k * 3, none⟩)) (X 60) w6 := hv3; clear hv3; have hv3 := hV3; clear hV3; generalize X 60 = X60 at *
   have hV4 : (fun z_ _ => z_ = .pointer (some ⟨b, off + k * 3 + 2, none⟩)) (X 61) w6 := hv4; clear hv4; have hv4 := hV4; clear hV4; generalize X 61 = X61 at *
   have hV5 : (fun z_ _ => z_ = .slice (Q k).1 (Q k).2.1 (Q k).2.2) (X 62) w6 := hv5; clear hv5; have hv5 := hV5; clear hV5; generalize X 62 = X62 at *
   have hV6 : (fun z_ _ => z_ = .int .i64 (((Q k).2.1 : Nat) : Int)) (X 63) w6 := hv6; clear hv6; have hv6 := hV6; clear hV6; generalize X 63 = X63 at *
   have hV7 : (fun z_ _ => z_ = .pointer (some ⟨w.heap.size, 0, none⟩)) (X 64) w6 := hv7; clear hv7; have hv7 := hV7; clear hV7; generalize X 64 = X64 at *
   have hV8 : (fun z_ _ => z_ = .pointer (some ⟨w.heap.size, 2, none⟩)) (X 65) w6 := hv8; clear hv8; have hv8 := hV8; clear hV8; generalize X 65 = X65 at *
   have hV9 : (fun z_ _ => z_ = .slice (some ⟨hb_, hoff, none⟩) n hc) (X 66) w6 := hv9; clear hv9; have hv9 := hV9; clear hV9; generalize X 66 = X66 at *
   have hV10 : (fun z_ _ => z_ = .int .i64 (k : Int)) (X 67) w6 := hv10; clear hv10; have hv10 := hV10; clear hV10; generalize X 67 = X67 at *
   have hV11 : (fun z_ _ => z_ = .pointer (some ⟨hb_, hoff + k * 3, none⟩)) (X 68) w6 := hv11; clear hv11; have hv11 := hV11; clear hV11; generalize X 68 = X68 at *
   have hV12 : (fun z_ _ => z_ = .pointer (some ⟨hb_, hoff + k * 3 + 1, none⟩)) (X 69) w6 := hv12; clear hv12; have hv12 := hV12; clear hV12; generalize X 69 = X69 at *
   have hV13 : (fun z_ _ => z_ = .int .i64 (v k)) (X 70) w6 := hv13; clear hv13; have hv13 := hV13; clear hV13; generalize X 70 = X70 at *
   have hV14 : (fun z_ _ => z_ = .int .i64 (szf (v k))) (X 71) w6 := hv14; clear hv14; have hv14 := hV14; clear hV14; generalize X 71 = X71 at *
   have hV15 : (fun z_ _ => z_ = .bool false) (X 72) w6 := hv15; clear hv15; have hv15 := hV15; clear hV15; generalize X 72 = X72 at *
   obtain rfl := hv0
   obtain rfl := hv1
   obtain rfl := hv2
   obtain rfl := hv3
   obtain rfl := hv4
   obtain rfl := hv5
   obtain rfl := hv6
   obtain rfl := hv7
   obtain rfl := hv8
   obtain rfl := hv9
   obtain rfl := hv10
   obtain rfl := hv11
   obtain rfl := hv12
   obtain rfl := hv13
   obtain rfl := hv14
   obtain rfl := hv15
   have RC := η (J6 RB5.out hb); clear hb
   have FX_6 := η (HXR.out.below RC.out ν)
   have FR_6 := η (FR.out.below RC.out ν)
   have FH_6 := η (FH.out.below RC.out ν)
   have HB6 := η (HBR.out.trans (RC.out.mono HBR.out.size))
   clear HBR HXR FR FH RB5
   refine wpListIn_nil ?_
   go_wp2_with fail
   go_roundw
   case rel => exact ⟨k + 1, hlt, by go_num, HB6.out⟩
   case measure => exact hms.out
  ·obtain rfl : k = n := by omega
   go_wp2_with fail
   clear c4
   have HO4 := η (HO3.out.below HBR.out ν)
   have HB14 := η (HB13.out.trans (HBR.out.mono HB13.out.size))
   clear HO3 HB13 HX3 HBR HB
   generalize wr = w4 at *
   go_loopw [4, 9] (fun br ir wr => ∃ m : Nat, m ≤ k ∧ ir = .int .i64 (m : Int) ∧ OwB wr w1.heap.size br (hdrB op k d v p ++ rgsB Q F G m) ∧ Fr w1.heap.size none w4 wr) (fun _ i _ => k - (intOf i).toNat)
   case atStart => exact ⟨0, by omega, rfl, by simpa [rgsB] using HO4.out, Fr.refl _ _ _⟩
   case round =>
    obtain ⟨m, hm, rfl, hown, hfr⟩ := hrel
    have HOW := η hown; have HFR := η hfr; clear hown hfr
    have HXR2 := η (HFR.out.keep _ _ _ (by decide) (by simp) HXR.out)
    have HBW := η (HB14.out.trans HFR.out.below)
    have HB := η (HB1.out.trans (HBW.out.mono HB1.out.size))
    have c4 := HXR2.out.cell 4 (v := .slice (some ⟨b, off, none⟩) k c) rfl
    by_cases hlt : m < k
    ·have hms := η (show k - (intOf (.int .i64 ((m : Int) + 1))).toNat < k - (intOf (.int .i64 (m : Int))).toNat from by simp [intOf]; omega)
     have FR := η (show Rg1 wr b (off + m * 3) (d m) (v m) (Q m) from (Rg1.mk HBL.out (HC.out m hlt).1 (HC.out m hlt).2.1 (HC.out m hlt).2.2).below HB.out ν)
     have FH := η (show Rg1 wr hb_ (hoff + m * 3) (d m) (v m) (Qh m) from (Rg1.mk HHL.out (HHC.out m hlt).1 (HHC.out m hlt).2.1 (HHC.out m hlt).2.2).below HB.out ν)
     have FY := η (Below.refl wr.heap.size wr)
     go_wp2_with fail
     clear c4
     refine (wpIn_wide (n := 0)).1 ?_
     refine wpIn_region_any (by kernel_rfl) ?_
     change wpAnyIn _ _ _ _ _ _ _ _ _ (World.drew _)
     have RB5 := η (Je wr)
     refine Jk WideF.wide (fun a b => Below a.heap.size a b) (fun _ => J0) (fun _ _ _ h k => J6 h k) [⟨0, 80, fun z_ _ => z_ = .pointer (some ⟨w.heap.size, 4, none⟩)⟩, ⟨1, 81, fun z_ _ => z_ = .slice (some ⟨b, off, none⟩) k c⟩, ⟨2, 82, fun z_ _ => z_ = .int .i64 (m : Int)⟩, ⟨3, 83, fun z_ _ => z_ = .pointer (some ⟨b, off + m * 3, none⟩)⟩, ⟨4, 84, fun z_ _ => z_ = .pointer (some ⟨b, off + m * 3, none⟩)⟩, ⟨5, 85, fun z_ _ => z_ = .bool (d m)⟩, ⟨6, 86, fun z_ _ => z_ = .pointer (some ⟨w.heap.size, 0, none⟩)⟩, ⟨7, 87, fun z_ _ => z_ = .pointer (some ⟨w.heap.size, 2, none⟩)⟩, ⟨8, 88, fun z_ _ => z_ = .slice (some ⟨hb_, hoff, none⟩) k hc⟩, ⟨9, 89, fun z_ _ => z_ = .int .i64 (m : Int)⟩, ⟨10, 90, fun z_ _ => z_ = .pointer (some ⟨hb_, hoff + m * 3, none⟩)⟩, ⟨11, 91, fun z_ _ => z_ = .pointer (some ⟨hb_, hoff + m * 3, none⟩)⟩, ⟨12, 92, fun z_ _ => z_ = .bool (d m)⟩, ⟨13, 93, fun z_ _ => z_ = .bool false⟩, ⟨14, 94, fun z_ _ => z_ = .bool false⟩, ⟨15, 95, fun z_ _ => z_ = .pointer (some ⟨w.heap.size, 4, none⟩)⟩, ⟨16, 96, fun z_ _ => z_ = .slice (some ⟨b, off, none⟩) k c⟩, ⟨17, 97, fun z_ _ => z_ = .int .i64 (m : Int)⟩, ⟨18, 98, fun z_ _ => z_ = .pointer (some ⟨b, off + m * 3, none⟩)⟩, ⟨19, 99, fun z_ _ => z_ = .pointer (some ⟨b, off + m * 3 + 1, none⟩)⟩, ⟨20, 100, fun z_ _ => z_ = .int .i64 (v m)⟩, ⟨21, 101, fun z_ _ => z_ = .pointer (some ⟨w.heap.size, 0, none⟩)⟩, ⟨22, 102, fun z_ _ => z_ = .pointer (some ⟨w.heap.size, 2, none⟩)⟩, ⟨23, 103, fun z_ _ => z_ = .slice (some ⟨hb_, hoff, none⟩) k hc⟩, ⟨24, 104, fun z_ _ => z_ = .int .i64 (m : Int)⟩, ⟨25, 105, fun z_ _ => z_ = .pointer (some ⟨hb_, hoff + m * 3, none⟩)⟩, ⟨26, 106, fun z_ _ => z_ = .pointer (some ⟨hb_, hoff + m * 3 + 1, none⟩)⟩, ⟨27, 107, fun z_ _ => z_ = .int .i64 (v m)⟩, ⟨28, 108, fun z_ _ => z_ = .bool false⟩, ⟨29, 109, fun z_ _ => z_ = .bool false⟩] 30 (by kernel_rfl) ?_ ?_ ?_
     ·refine ⟨?_, ?_, ?_, ?_, ?_, ?_, ?_, ?_, ?_, ?_, ?_, ?_, ?_, ?_, ?_, ?_, ?_, ?_, ?_, ?_, ?_, ?_, ?_, ?_, ?_, ?_, ?_, ?_, ?_, ?_, trivial⟩
      all_goals (intro x w w' hb h; first | exact h | (obtain ⟨b_, h1, h2⟩ := h; exact ⟨b_, h1, h2.below hb ν⟩))
     ·refine ⟨?_, ?_, ?_, ?_, ?_, ?_, ?_, ?_, ?_, ?_, ?_, ?_, ?_, ?_, ?_, ?_, ?_, ?_, ?_, ?_, ?_, ?_, ?_, ?_, ?_, ?_, ?_, ?_, ?_, ?_, trivial⟩
      ·intro a wz K hb ht hd hK
       have hbw := η (J6 RB5.out hb); clear hb
       have hx1 := (ht 1 rfl).trans rfl
       have es1 : a.tmps.getD 1 undef = _ := J7 hx1; clear hx1
       clear ht hd
       have HK := η hK; clear hK
       refine oP (fun K' HK' => ?_)
       go_simp
       exact HK'.out _ _ (HK.out _ _ J0 rfl)
      ·intro a wz K hb ht hd hK
       have hbw := η (J6 RB5.out hb); clear hb
       obtain ⟨x80, hx80, hp80⟩ := hd 0 _ rfl (by kernel_rfl)
       obtain rfl := hp80
       have es80 : a.tmps.getD 80 undef = _ := J7 hx80; clear hx80
       clear ht hd
       have zc0 := (HXR2.out.below hbw.out ν).cell 4 (v := .slice (some ⟨b, off, none⟩) k c) rfl
       have HK := η hK; clear hK
       refine oP (fun K' HK' => ?_)
       go_simp
       exact HK'.out _ _ (HK.out _ _ J0 rfl)
      ·intro a wz K hb ht hd hK
       have hbw := η (J6 RB5.out hb); clear hb
       have hx9 := (ht 9 rfl).trans rfl
       have es9 : a.tmps.getD 9 undef = _ := J7 hx9; clear hx9
       clear ht hd
       have HK := η hK; clear hK
       refine oP (fun K' HK' => ?_)
       go_simp
       exact HK'.out _ _ (HK.out _ _ J0 rfl)
      ·intro a wz K hb ht hd hK
       have hbw := η (J6 RB5.out hb); clear hb
       obtain ⟨x81, hx81, hp81⟩ := hd 1 _ rfl (by kernel_rfl)
       obtain rfl := hp81
       have es81 : a.tmps.getD 81 undef = _ := J7 hx81; clear hx81
       obtain ⟨x82, hx82, hp82⟩ := hd 2 _ rfl (by kernel_rfl)
       obtain rfl := hp82
       have es82 : a.tmps.getD 82 undef = _ := J7 hx82; clear hx82
       clear ht hd
       have HK := η hK; clear hK
       refine oP (fun K' HK' => ?_)
       go_simp
       exact HK'.out _ _ (HK.out _ _ J0 rfl)
      ·intro a wz K hb ht hd hK
       have hbw := η (J6 RB5.out hb); clear hb
       obtain ⟨x83, hx83, hp83⟩ := hd 3 _ rfl (by kernel_rfl)
       obtain rfl := hp83
       have es83 : a.tmps.getD 83 undef = _ := J7 hx83; clear hx83
       clear ht hd
       have HK := η hK; clear hK
       refine oP (fun K' HK' => ?_)
       go_simp
       exact HK'.out _ _ (HK.out _ _ J0 rfl)
      ·intro a wz K hb ht hd hK
       have hbw := η (J6 RB5.out hb); clear hb
       obtain ⟨x84, hx84, hp84⟩ := hd 4 _ rfl (by kernel_rfl)
       obtain rfl := hp84
       have es84 : a.tmps.getD 84 undef = _ := J7 hx84; clear hx84
       clear ht hd
       have zc0 := (FR.out.below hbw.out ν).c0
       have HK := η hK; clear hK
       refine oP (fun K' HK' => ?_)
       go_simp
       exact HK'.out _ _ (HK.out _ _ J0 rfl)
      ·intro a wz K hb ht hd hK
       have hbw := η (J6 RB5.out hb); clear hb
       have hx1 := (ht 1 rfl).trans rfl
       have es1 : a.tmps.getD 1 undef = _ := J7 hx1; clear hx1
       clear ht hd
       have HK := η hK; clear hK
       refine oP (fun K' HK' => ?_)
       go_simp
       exact HK'.out _ _ (HK.out _ _ J0 rfl)
      ·intro a wz K hb ht hd hK
       have hbw := η (J6 RB5.out hb); clear hb
       obtain ⟨x86, hx86, hp86⟩ := hd 6 _ rfl (by kernel_rfl)
       obtain rfl := hp86
       have es86 : a.tmps.getD 86 undef = _ := J7 hx86; clear hx86
       clear ht hd
       have HK := η hK; clear hK
       refine oP (fun K' HK' => ?_)
       go_simp
       exact HK'.out _ _ (HK.out _ _ J0 rfl)
      ·intro a wz K hb ht hd hK
       have hbw := η (J6 RB5.out hb); clear hb
       obtain ⟨x87, hx87, hp87⟩ := hd 7 _ rfl (by kernel_rfl)
       obtain rfl := hp87
       have es87 : a.tmps.getD 87 undef = _ := J7 hx87; clear hx87
       clear ht hd
       have zc0 := (HXR2.out.below hbw.out ν).cell 2 (v := .slice (some ⟨hb_, hoff, none⟩) k hc) rfl
       have HK := η hK; clear hK
       refine oP (fun K' HK' => ?_)
       go_simp
       exact HK'.out _ _ (HK.out _ _ J0 rfl)
      ·intro a wz K hb ht hd hK
       have hbw := η (J6 RB5.out hb); clear hb
       have hx9 := (ht 9 rfl).trans rfl
       have es9 : a.tmps.getD 9 undef = _ := J7 hx9; clear hx9
       clear ht hd
       have HK := η hK; clear hK
       refine oP (fun K' HK' => ?_)
       go_simp
       exact HK'.out _ _ (HK.out _ _ J0 rfl)
      ·intro a wz K hb ht hd hK
       have hbw := η (J6 RB5.out hb); clear hb
       obtain ⟨x88, hx88, hp88⟩ := hd 8 _ rfl (by kernel_rfl)
       obtain rfl := hp88
       have es88 : a.tmps.getD 88 undef = _ := J7 hx88; clear hx88
       obtain ⟨x89, hx89, hp89⟩ := hd 9 _ rfl (by kernel_rfl)
       obtain rfl := hp89
       have es89 : a.tmps.getD 89 undef = _ := J7 hx89; clear hx89
       clear ht hd
       have HK := η hK; clear hK
       refine oP (fun K' HK' => ?_)
       go_simp
       exact HK'.out _ _ (HK.out _ _ J0 rfl)
      ·intro a wz K hb ht hd hK
       have hbw := η (J6 RB5.out hb); clear hb
       obtain ⟨x90, hx90, hp90⟩ := hd 10 _ rfl (by kernel_rfl)
       obtain rfl := hp90
       have es90 : a.tmps.getD 90 undef = _ := J7 hx90; clear hx90
       clear ht hd
       have HK := η hK; clear hK
       refine oP (fun K' HK' => ?_)
       go_simp
       exact HK'.out _ _ (HK.out _ _ J0 rfl)
      ·intro a wz K hb ht hd hK
       have hbw := η (J6 RB5.out hb); clear hb
       obtain ⟨x91, hx91, hp91⟩ := hd 11 _ rfl (by kernel_rfl)
       obtain rfl := hp91
       have es91 : a.tmps.getD 91 undef = _ := J7 hx91; clear hx91
       clear ht hd
       have zc0 := (FH.out.below hbw.out ν).c0
       have HK := η hK; clear hK
       refine oP (fun K' HK' => ?_)
       go_simp
       exact HK'.out _ _ (HK.out _ _ J0 rfl)
      ·intro a wz K hb ht hd hK
       have hbw := η (J6 RB5.out hb); clear hb
       obtain ⟨x85, hx85, hp85⟩ := hd 5 _ rfl (by kernel_rfl)
       obtain rfl := hp85
       have es85 : a.tmps.getD 85 undef = _ := J7 hx85; clear hx85
       obtain ⟨x92, hx92, hp92⟩ := hd 12 _ rfl (by kernel_rfl)
       obtain rfl := hp92
       have es92 : a.tmps.getD 92 undef = _ := J7 hx92; clear hx92
       clear ht hd
       have HK := η hK; clear hK
       refine oP (fun K' HK' => ?_)
       go_simp
       exact HK'.out _ _ (HK.out _ _ J0 rfl)
      ·intro a wz K hb ht hd hK
       have hbw := η (J6 RB5.out hb); clear hb
       obtain ⟨x93, hx93, hp93⟩ := hd 13 _ rfl (by kernel_rfl)
       obtain rfl := hp93
       have es93 : a.tmps.getD 93 undef = _ := J7 hx93; clear hx93
       clear ht hd
       have HK := η hK; clear hK
       refine oP (fun K' HK' => ?_)
       go_simp
       exact HK'.out _ _ (HK.out _ _ J0 rfl)
      ·intro a wz K hb ht hd hK
       have hbw := η (J6 RB5.out hb); clear hb
       have hx1 := (ht 1 rfl).trans rfl
       have es1 : a.tmps.getD 1 undef = _ := J7 hx1; clear hx1
       obtain ⟨x94, hx94, hp94⟩ := hd 14 _ rfl (by kernel_rfl)
       obtain rfl := hp94
       have es94 : a.tmps.getD 94 undef = _ := J7 hx94; have gs94 : a.tmps[94]? = some _ := hx94; clear hx94
       clear ht hd
       have HK := η hK; clear hK
       refine oP (fun K' HK' => ?_)
       go_simp
       exact HK'.out _ _ (HK.out _ _ J0 rfl)
      ·intro a wz K hb ht hd hK
       have hbw := η (J6 RB5.out hb); clear hb
       obtain ⟨x95, hx95, hp95⟩ := hd 15 _ rfl (by kernel_rfl)
       obtain rfl := hp95
       have es95 : a.tmps.getD 95 undef = _ := J7 hx95; clear hx95
       obtain ⟨x94, hx94, hp94⟩ := hd 14 _ rfl (by kernel_rfl)
       obtain rfl := hp94
       have es94 : a.tmps.getD 94 undef = _ := J7 hx94; have gs94 : a.tmps[94]? = some _ := hx94; clear hx94
       clear ht hd
       have zc0 := (HXR2.out.below hbw.out ν).cell 4 (v := .slice (some ⟨b, off, none⟩) k c) rfl
       have HK := η hK; clear hK
       refine oP (fun K' HK' => ?_)
       go_simp
       exact HK'.out _ _ (HK.out _ _ J0 rfl)
      ·intro a wz K hb ht hd hK
       have hbw := η (J6 RB5.out hb); clear hb
       have hx9 := (ht 9 rfl).trans rfl
       have es9 : a.tmps.getD 9 undef = _ := J7 hx9; clear hx9
       obtain ⟨x94, hx94, hp94⟩ := hd 14 _ rfl (by kernel_rfl)
       obtain rfl := hp94
       have es94 : a.tmps.getD 94 undef = _ := J7 hx94; have gs94 : a.tmps[94]? = some _ := hx94; clear hx94
       clear ht hd
       have HK := η hK; clear hK
       refine oP (fun K' HK' => ?_)
       go_simp
       exact HK'.out _ _ (HK.out _ _ J0 rfl)
      ·intro a wz K hb ht hd hK
       have hbw := η (J6 RB5.out hb); clear hb
       obtain ⟨x96, hx96, hp96⟩ := hd 16 _ rfl (by kernel_rfl)
       obtain rfl := hp96
       have es96 : a.tmps.getD 96 undef = _ := J7 hx96; clear hx96
       obtain ⟨x97, hx97, hp97⟩ := hd 17 _ rfl (by kernel_rfl)
       obtain rfl := hp97
       have es97 : a.tmps.getD 97 undef = _ := J7 hx97; clear hx97
       obtain ⟨x94, hx94, hp94⟩ := hd 14 _ rfl (by kernel_rfl)
       obtain rfl := hp94
       have es94 : a.tmps.getD 94 undef = _ := J7 hx94; have gs94 : a.tmps[94]? = some _ := hx94; clear hx94
       clear ht hd
       have HK := η hK; clear hK
       refine oP (fun K' HK' => ?_)
       go_simp
       exact HK'.out _ _ (HK.out _ _ J0 rfl)
      ·intro a wz K hb ht hd hK
       have hbw := η (J6 RB5.out hb); clear hb
       obtain ⟨x98, hx98, hp98⟩ := hd 18 _ rfl (by kernel_rfl)
       obtain rfl := hp98
       have es98 : a.tmps.getD 98 undef = _ := J7 hx98; clear hx98
       obtain ⟨x94, hx94, hp94⟩ := hd 14 _ rfl (by kernel_rfl)
       obtain rfl := hp94
       have es94 : a.tmps.getD 94 undef = _ := J7 hx94; have gs94 : a.tmps[94]? = some _ := hx94; clear hx94
       clear ht hd
       have HK := η hK; clear hK
       refine oP (fun K' HK' => ?_)
       go_simp
       exact HK'.out _ _ (HK.out _ _ J0 rfl)
      ·intro a wz K hb ht hd hK
       have hbw := η (J6 RB5.out hb); clear hb
       obtain ⟨x99, hx99, hp99⟩ := hd 19 _ rfl (by kernel_rfl)
       obtain rfl := hp99
       have es99 : a.tmps.getD 99 undef = _ := J7 hx99; clear hx99
       obtain ⟨x94, hx94, hp94⟩ := hd 14 _ rfl (by kernel_rfl)
       obtain rfl := hp94
       have es94 : a.tmps.getD 94 undef = _ := J7 hx94; have gs94 : a.tmps[94]? = some _ := hx94; clear hx94
       clear ht hd
       have zc0 := (FR.out.below hbw.out ν).c1
       have HK := η hK; clear hK
       refine oP (fun K' HK' => ?_)
       go_simp
       exact HK'.out _ _ (HK.out _ _ J0 rfl)
      ·intro a wz K hb ht hd hK
       have hbw := η (J6 RB5.out hb); clear hb
       have hx1 := (ht 1 rfl).trans rfl
       have es1 : a.tmps.getD 1 undef = _ := J7 hx1; clear hx1
       obtain ⟨x94, hx94, hp94⟩ := hd 14 _ rfl (by kernel_rfl)
       obtain rfl := hp94
       have es94 : a.tmps.getD 94 undef = _ := J7 hx94; have gs94 : a.tmps[94]? = some _ := hx94; clear hx94
       clear ht hd
       have HK := η hK; clear hK
       refine oP (fun K' HK' => ?_)
       go_simp
       exact HK'.out _ _ (HK.out _ _ J0 rfl)
      ·intro a wz K hb ht hd hK
       have hbw := η (J6 RB5.out hb); clear hb
       obtain ⟨x101, hx101, hp101⟩ := hd 21 _ rfl (by kernel_rfl)
       obtain rfl := hp101
       have es101 : a.tmps.getD 101 undef = _ := J7 hx101; clear hx101
       obtain ⟨x94, hx94, hp94⟩ := hd 14 _ rfl (by kernel_rfl)
       obtain rfl := hp94
       have es94 : a.tmps.getD 94 undef = _ := J7 hx94; have gs94 : a.tmps[94]? = some _ := hx94; clear hx94
       clear ht hd
       have HK := η hK; clear hK
       refine oP (fun K' HK' => ?_)
       go_simp
       exact HK'.out _ _ (HK.out _ _ J0 rfl)
      ·intro a wz K hb ht hd hK
       have hbw := η (J6 RB5.out hb); clear hb
       obtain ⟨x102, hx102, hp102⟩ := hd 22 _ rfl (by kernel_rfl)
       obtain rfl := hp102
       have es102 : a.tmps.getD 102 undef = _ := J7 hx102; clear hx102
       obtain ⟨x94, hx94, hp94⟩ := hd 14 _ rfl (by kernel_rfl)
       obtain rfl := hp94
       have es94 : a.tmps.getD 94 undef = _ := J7 hx94; have gs94 : a.tmps[94]? = some _ := hx94; clear hx94
       clear ht hd
       have zc0 := (HXR2.out.below hbw.out ν).cell 2 (v := .slice (some ⟨hb_, hoff, none⟩) k hc) rfl
       have HK := η hK; clear hK
       refine oP (fun K' HK' => ?_)
       go_simp
       exact HK'.out _ _ (HK.out _ _ J0 rfl)
      ·intro a wz K hb ht hd hK
       have hbw := η (J6 RB5.out hb); clear hb
       have hx9 := (ht 9 rfl).trans rfl
       have es9 : a.tmps.getD 9 undef = _ := J7 hx9; clear hx9
       obtain ⟨x94, hx94, hp94⟩ := hd 14 _ rfl (by kernel_rfl)
       obtain rfl := hp94
       have es94 : a.tmps.getD 94 undef = _ := J7 hx94; have gs94 : a.tmps[94]? = some _ := hx94; clear hx94
       clear ht hd
       have HK := η hK; clear hK
       refine oP (fun K' HK' => ?_)
       go_simp
       exact HK'.out _ _ (HK.out _ _ J0 rfl)
      ·intro a wz K hb ht hd hK
       have hbw := η (J6 RB5.out hb); clear hb
       obtain ⟨x103, hx103, hp103⟩ := hd 23 _ rfl (by kernel_rfl)
       obtain rfl := hp103
       have es103 : a.tmps.getD 103 undef = _ := J7 hx103; clear hx103
       obtain ⟨x104, hx104, hp104⟩ := hd 24 _ rfl (by kernel_rfl)
       obtain rfl := hp104
       have es104 : a.tmps.getD 104 undef = _ := J7 hx104; clear hx104
       obtain ⟨x94, hx94, hp94⟩ := hd 14 _ rfl (by kernel_rfl)
       obtain rfl := hp94
       have es94 : a.tmps.getD 94 undef = _ := J7 hx94; have gs94 : a.tmps[94]? = some _ := hx94; clear hx94
       clear ht hd
       have HK := η hK; clear hK
       refine oP (fun K' HK' => ?_)
       go_simp
       exact HK'.out _ _ (HK.out _ _ J0 rfl)
      ·intro a wz K hb ht hd hK
       have hbw := η (J6 RB5.out hb); clear hb
       obtain ⟨x105, hx105, hp105⟩ := hd 25 _ rfl (by kernel_rfl)
       obtain rfl := hp105
       have es105 : a.tmps.getD 105 undef = _ := J7 hx105; clear hx105
       obtain ⟨x94, hx94, hp94⟩ := hd 14 _ rfl (by kernel_rfl)
       obtain rfl := hp94
       have es94 : a.tmps.getD 94 undef = _ := J7 hx94; have gs94 : a.tmps[94]? = some _ := hx94; clear hx94
       clear ht hd
       have HK := η hK; clear hK
       refine oP (fun K' HK' => ?_)
       go_simp
       exact HK'.out _ _ (HK.out _ _ J0 rfl)
      ·intro a wz K hb ht hd hK
       have hbw := η (J6 RB5.out hb); clear hb
       obtain ⟨x106, hx106, hp106⟩ := hd 26 _ rfl (by kernel_rfl)
       obtain rfl := hp106
       have es106 : a.tmps.getD 106 undef = _ := J7 hx106; clear hx106
       obtain ⟨x94, hx94, hp94⟩ := hd 14 _ rfl (by kernel_rfl)
       obtain rfl := hp94
       have es94 : a.tmps.getD 94 undef = _ := J7 hx94; have gs94 : a.tmps[94]? = some _ := hx94; clear hx94
       clear ht hd
       have zc0 := (FH.out.below hbw.out ν).c1
       have HK := η hK; clear hK
       refine oP (fun K' HK' => ?_)
       go_simp
       exact HK'.out _ _ (HK.out _ _ J0 rfl)
      ·intro a wz K hb ht hd hK
       have hbw := η (J6 RB5.out hb); clear hb
       obtain ⟨x100, hx100, hp100⟩ := hd 20 _ rfl (by kernel_rfl)
       obtain rfl := hp100
       have es100 : a.tmps.getD 100 undef = _ := J7 hx100; clear hx100
       obtain ⟨x107, hx107, hp107⟩ := hd 27 _ rfl (by kernel_rfl)
       obtain rfl := hp107
       have es107 : a.tmps.getD 107 undef = _ := J7 hx107; clear hx107
       obtain ⟨x94, hx94, hp94⟩ := hd 14 _ rfl (by kernel_rfl)
       obtain rfl := hp94
       have es94 : a.tmps.getD 94 undef = _ := J7 hx94; have gs94 : a.tmps[94]? = some _ := hx94; clear hx94
       clear ht hd
       have HK := η hK; clear hK
       refine oP (fun K' HK' => ?_)
       go_simp
       exact HK'.out _ _ (HK.out _ _ J0 rfl)
      ·intro a wz K hb ht hd hK
       have hbw := η (J6 RB5.out hb); clear hb
       obtain ⟨x94, hx94, hp94⟩ := hd 14 _ rfl (by kernel_rfl)
       obtain rfl := hp94
       have es94 : a.tmps.getD 94 undef = _ := J7 hx94; clear hx94
       obtain ⟨x108, hx108, hp108⟩ := hd 28 _ rfl (by kernel_rfl)
       obtain rfl := hp108
       have es108 : a.tmps.getD 108 undef = _ := J7 hx108; clear hx108
       clear ht hd
       have HK := η hK; clear hK
       refine oP (fun K' HK' => ?_)
       go_simp
       exact HK'.out _ _ (HK.out _ _ J0 rfl)
     intro w6 X hb hv
     simp only [List.foldl_cons, List.foldl_nil, Act.put, List.setIfInBounds_toArray, List.set_cons_zero, List.set_cons_succ, List.toList_toArray, List.drop_succ_cons, List.drop_zero]
     obtain ⟨hv0, hv1, hv2, hv3, hv4, hv5, hv6, hv7, hv8, hv9, hv10, hv11, hv12, hv13, hv14, hv15, hv16, hv17, hv18, hv19, hv20, hv21, hv22, hv23, hv24, hv25, hv26, hv27, hv28, hv29, -⟩ := hv
     have hV0 : (fun z_ _ => z_ = .pointer (some ⟨w.heap.size, 4, none⟩)) (X 80) w6 := hv0; clear hv0; have hv0 := hV0; clear hV0; generalize X 80 = X80 at *
     have hV1 : (fun z_ _ => z_ = .slice (some ⟨b, off, none⟩) k c) (X 81) w6 := hv1; clear hv1; have hv1 := hV1; clear hV1; generalize X 81 = X81 at *
     have hV2 : (fun z_ _ => z_ = .int .i64 (m : Int)) (X 82) w6 := hv2; clear hv2; have hv2 := hV2; clear hV2; generalize X 82 = X82 at *
     have hV3 : (fun z_ _ => z_ = .pointer (some ⟨b, off + m * 3, none⟩)) (X 83) w6 := hv3; clear hv3; have hv3 := hV3; clear hV3; generalize X 83 = X83 at *
     have hV4 : (fun z_ _ => z_ = .pointer (some ⟨b, off + m * 3, none⟩)) (X 84) w6 := hv4; clear hv4; have hv4 := hV4; clear hV4; generalize X 84 = X84 at *
     have hV5 : (fun z_ _ => z_ = .bool (d m)) (X 85) w6 := hv5; clear hv5; have hv5 := hV5; clear hV5; generalize X 85 = X85 at *
     have hV6 : (fun z_ _ => z_ = .pointer (some ⟨w.heap.size, 0, none⟩)) (X 86) w6 := hv6; clear hv6; have hv6 := hV6; clear hV6; generalize X 86 = X86 at *
     have hV7 : (fun z_ _ => z_ = .pointer (some ⟨w.heap.size, 2, none⟩)) (X 87) w6 := hv7; clear hv7; have hv7 := hV7; clear hV7; generalize X 87 = X87 at *
     have hV8 : (fun z_ _ => z_ = .slice (some ⟨hb_, hoff, none⟩) k hc) (X 88) w6 := hv8; clear hv8; have hv8 := hV8; clear hV8; generalize X 88 = X88 at *
     have hV9 : (fun z_ _ => z_ = .int .i64 (m : Int)) (X 89) w6 := hv9; clear hv9; have hv9 := hV9; clear hV9; generalize X 89 = X89 at *
     have hV10 : (fun z_ _ => z_ = .pointer (some ⟨hb_, hoff + m * 3, none⟩)) (X 90) w6 := hv10; clear hv10; have hv10 := hV10; clear hV10; generalize X 90 = X90 at *
     have hV11 : (fun z_ _ => z_ = .pointer (some ⟨hb_, hoff + m * 3, none⟩)) (X 91) w6 := hv11; clear hv11; have hv11 := hV11; clear hV11; generalize X 91 = X91 at *
     have hV12 : (fun z_ _ => z_ = .bool (d m)) (X 92) w6 := hv12; clear hv12; have hv12 := hV12; clear hV12; generalize X 92 = X92 at *
     have hV13 : (fun z_ _ => z_ = .bool false) (X 93) w6 := hv13; clear hv13; have hv13 := hV13; clear hV13; generalize X 93 = X93 at *
     have hV14 : (fun z_ _ => z_ = .bool false) (X 94) w6 := hv14; clear hv14; have hv14 := hV14; clear hV14; generalize X 94 = X94 at *
     have hV15 : (fun z_ _ => z_ = .pointer (some ⟨w.heap.size, 4, none⟩)) (X 95) w6 := hv15; clear hv15; have hv15 := hV15; clear hV15; generalize X 95 = X95 at *
     have hV16 : (fun z_ _ => z_ = .slice (some ⟨b, off, none⟩) k c) (X 96) w6 := hv16; clear hv16; have hv16 := hV16; clear hV16; generalize X 96 = X96 at *
     have hV17 : (fun z_ _ => z_ = .int .i64 (m : Int)) (X 97) w6 := hv17; clear hv17; have hv17 := hV17; clear hV17; generalize X 97 = X97 at *
     have hV18 : (fun z_ _ => z_ = .pointer (some ⟨b, off + m * 3, none⟩)) (X 98) w6 := hv18; clear hv18; have hv18 := hV18; clear hV18; generalize X 98 = X98 at *
     have hV19 : (fun z_ _ => z_ = .pointer (some ⟨b, off + m * 3 + 1, none⟩)) (X 99) w6 := hv19; clear hv19; have hv19 := hV19; clear hV19; generalize X 99 = X99 at *
     have hV20 : (fun z_ _ => z_ = .int .i64 (v m)) (X 100) w6 := hv20; clear hv20; have hv20 := hV20; clear hV20; generalize X 100 = X100 at *
     have hV21 : (fun z_ _ => z_ = .pointer (some ⟨w.heap.size, 0, none⟩)) (X 101) w6 := hv21; clear hv21; have hv21 := hV21; clear hV21; generalize X 101 = X101 at *
     have hV22 : (fun z_ _ => z_ = .pointer (some ⟨w.heap.size, 2, none⟩)) (X 102) w6 := hv22; clear hv22; have hv22 := hV22; clear hV22; generalize X 102 = X102 at *
     have hV23 : (fun z_ _ => z_ = .slice (some ⟨hb_, hoff, none⟩) k hc) (X 103) w6 := hv23; clear hv23; have hv23 := hV23; clear hV23; generalize X 103 = X103 at *
     have hV24 : (fun z_ _ => z_ = .int .i64 (m : Int)) (X 104) w6 := hv24; clear hv24; have hv24 := hV24; clear hV24; generalize X 104 = X104 at *
     have hV25 : (fun z_ _ => z_ = .pointer (some ⟨hb_, hoff + m * 3, none⟩)) (X 105) w6 := hv25; clear hv25; have hv25 := hV25; clear hV25; generalize X 105 = X105 at *
     have hV26 : (fun z_ _ => z_ = .pointer (some ⟨hb_, hoff + m * 3 + 1, none⟩)) (X 106) w6 := hv26; clear hv26; have hv26 := hV26; clear hV26; generalize X 106 = X106 at *
     have hV27 : (fun z_ _ => z_ = .int .i64 (v m)) (X 107) w6 := hv27; clear hv27; have hv27 := hV27; clear hV27; generalize X 107 = X107 at *
     have hV28 : (fun z_ _ => z_ = .bool false) (X 108) w6 := hv28; clear hv28; have hv28 := hV28; clear hV28; generalize X 108 = X108 at *
     have hV29 : (fun z_ _ => z_ = .bool false) (X 109) w6 := hv29; clear hv29; have hv29 := hV29; clear hV29; generalize X 109 = X109 at *
     obtain rfl := hv0
     obtain rfl := hv1
     obtain rfl := hv2
     obtain rfl := hv3
     obtain rfl := hv4
     obtain rfl := hv5
     obtain rfl := hv6
     obtain rfl := hv7
     obtain rfl := hv8
     obtain rfl := hv9
     obtain rfl := hv10
     obtain rfl := hv11
     obtain rfl := hv12
     obtain rfl := hv13
     obtain rfl := hv14
     obtain rfl := hv15
     obtain rfl := hv16
     obtain rfl := hv17
     obtain rfl := hv18
     obtain rfl := hv19
     obtain rfl := hv20
     obtain rfl := hv21
     obtain rfl := hv22
     obtain rfl := hv23
     obtain rfl := hv24
     obtain rfl := hv25
     obtain rfl := hv26
     obtain rfl := hv27
     obtain rfl := hv28
     obtain rfl := hv29
     have RC := η (J6 RB5.out hb); clear hb
     have FX_6 := η (HXR2.out.below RC.out ν)
     have FR_6 := η (FR.out.below RC.out ν)
     have FH_6 := η (FH.out.below RC.out ν)
     have HB6 := η (FY.out.trans (RC.out.mono FY.out.size))
     clear FY HXR2 FR FH RB5
     refine wpListIn_nil ?_
     go_wp2_with fail
     have HOX := η (HOW.out.below HB6.out ν)
     have HFX := η (HFR.out.trans (Fr.of_below HB6.out HBW.out.size))
     have HQN := η (show (Q m).2.1 ≤ 10000 from by have := HO.out.num m hlt; have := Zaw (v m); omega)
     have HPM := η ((HP.out.pts m hlt).below HB1.out ν)
     have hcpm := HPM.out.cap
     have hmxm := HPM.out.max
     unfold maxLen at hmxm
     clear HOW HFR HBW HB HB6 FX_6 FR_6 FH_6
     go_loopw [4, 10] (fun br ir wq => ∃ j : Nat, j ≤ (Q m).2.1 ∧ ir = .int .i64 (j : Int) ∧ OwB wq w1.heap.size br (hdrB op k d v p ++ rgsB Q F G m ++ ptsB (F m) (G m) j) ∧ Fr w1.heap.size none w4 wq) (fun _ i _ => (Q m).2.1 - (intOf i).toNat)
     case atStart => exact ⟨0, by omega, rfl, by simpa [ptsB] using HOX.out, HFX.out⟩
     case round =>
      clear HOX HFX
      obtain ⟨j, hj, rfl, hown, hfr⟩ := hrel
      have HOW := η hown; have HFR := η hfr; clear hown hfr
      have HXR2 := η (HFR.out.keep _ _ _ (by decide) (by simp) HXR.out)
      have HBW := η (HB14.out.trans HFR.out.below)
      have HB := η (HB1.out.trans (HBW.out.mono HB1.out.size))
      have c4 := HXR2.out.cell 4 (v := .slice (some ⟨b, off, none⟩) k c) rfl
      have p2 : wr.cell? ⟨b, off + m * 3 + 2, none⟩ = some (.slice (Q m).1 (Q m).2.1 (Q m).2.2) := (HB.out.cell (p := ⟨b, off + m * 3 + 2, none⟩) HBL.out).trans (HC.out m hlt).2.2
      by_cases hjl : j < (Q m).2.1
      ·have hms2 := η (show (Q m).2.1 - (intOf (.int .i64 ((j : Int) + 1))).toNat < (Q m).2.1 - (intOf (.int .i64 (j : Int))).toNat from by simp [intOf]; omega)
       obtain ⟨bp, op_, hbp, hbl_, hcc⟩ := HPM.out.at_ (by omega)
       have p0 : wr.cell? ⟨bp, op_ + j * 2, none⟩ = some (.int .i64 (F m j)) := (HBW.out.cell (p := ⟨bp, op_ + j * 2, none⟩) hbl_).trans (hcc j hjl).1
       have p1 : wr.cell? ⟨bp, op_ + j * 2 + 1, none⟩ = some (.int .i64 (G m j)) := (HBW.out.cell (p := ⟨bp, op_ + j * 2 + 1, none⟩) hbl_).trans (hcc j hjl).2
       rw [hbp] at p2
       have HBP := η hbp
       clear hbp hbl_ hcc
       go_wp2_with fail
       clear c4 p0 p1 p2
       refine (Zbv w1.heap.size _ _ (F m j) (G m j) (by have h1_ := ZaB F G (v := v) (n := k) HO.out.num (k := m) (by omega) (by omega); have h2_ := ZbX (op := op) (p := p) (d := d) (v := v) (n := k) (by omega); have h3_ := HQN.out; rw [List.length_append, List.length_append, JP]; omega) _ HBW.out.size HOW.out).mono ?_
       rintro e w6 ⟨⟨v6, rfl, h6⟩, g6⟩
       have HO6 := η (show OwB w6 w1.heap.size v6 (hdrB op k d v p ++ rgsB Q F G m ++ ptsB (F m) (G m) (j + 1)) from by rw [ptsB, ← List.append_assoc]; exact h6); have HF6 := η (HFR.out.trans g6); clear h6 g6
       go_wp2_with fail
       go_roundw
       case rel => exact ⟨j + 1, hjl, by go_num, HO6.out, HF6.out⟩
       case measure => exact hms2.out
      ·obtain rfl : j = (Q m).2.1 := by omega
       go_wp2_with fail
       clear c4 p2
       go_roundw
       case rel => exact ⟨m + 1, hlt, by go_num, by rw [rgsB, ← List.append_assoc]; exact HOW.out, HFR.out⟩
       case measure => exact hms.out
    ·obtain rfl : m = k := by omega
     go_wp2_with fail
     clear c4
     have HOX := η HOW.out; have HFX := η HFR.out
     clear HOW HFR HXR2 HBW HB
     have HLS := η (show (hdrB op m d v p ++ rgsB Q F G m).length ≤ 65604 from by have h1_ := ZaB F G (v := v) (n := m) HO.out.num (k := m) (by omega) (by omega); have h2_ := ZbX (op := op) (p := p) (d := d) (v := v) (n := m) (by omega); rw [List.length_append]; omega)
     have HP1 := η (HPP.out.below HB1.out ν)
     have HQ1 := η (HQQ.out.below HB1.out ν)
     go_loopw [4, 11] (fun br ir wr => ∃ j : Nat, j ≤ np ∧ ir = .int .i64 (j : Int) ∧ OwB wr w1.heap.size br (hdrB op m d v p ++ rgsB Q F G m ++ ptsB f g j) ∧ Fr w1.heap.size none w4 wr) (fun _ i _ => np - (intOf i).toNat)
     case atStart => exact ⟨0, by omega, rfl, by simpa [ptsB] using HOX.out, HFX.out⟩
     case round =>
      clear HOX HFX
      obtain ⟨j, hj, rfl, hown, hfr⟩ := hrel
      have HOW := η hown; have HFR := η hfr; clear hown hfr
      have HXR2 := η (HFR.out.keep _ _ _ (by decide) (by simp) HXR.out)
      have HBW := η (HB14.out.trans HFR.out.below)
      have c5 := HXR2.out.cell 5 (v := .slice PA np pc) rfl
      by_cases hjl : j < np
      ·have hms2 := η (show np - (intOf (.int .i64 ((j : Int) + 1))).toNat < np - (intOf (.int .i64 (j : Int))).toNat from by simp [intOf]; omega)
       obtain ⟨bp, op_, hbp, hbl_, hcc⟩ := HP1.out.at_ (by omega)
       have p0 : wr.cell? ⟨bp, op_ + j * 2, none⟩ = some (.int .i64 (f j)) := (HBW.out.cell (p := ⟨bp, op_ + j * 2, none⟩) hbl_).trans (hcc j hjl).1
       have p1 : wr.cell? ⟨bp, op_ + j * 2 + 1, none⟩ = some (.int .i64 (g j)) := (HBW.out.cell (p := ⟨bp, op_ + j * 2 + 1, none⟩) hbl_).trans (hcc j hjl).2
       rw [hbp] at c5
       have HBP := η hbp
       clear hbp hbl_ hcc
       go_wp2_with fail
       clear c5 p0 p1
       refine (Zbv w1.heap.size _ _ (f j) (g j) (by have := HLS.out; have := HNP.out.1; rw [List.length_append, JP]; omega) _ HBW.out.size HOW.out).mono ?_
       rintro e w6 ⟨⟨v6, rfl, h6⟩, g6⟩
       have HO6 := η (show OwB w6 w1.heap.size v6 (hdrB op m d v p ++ rgsB Q F G m ++ ptsB f g (j + 1)) from by rw [ptsB, ← List.append_assoc]; exact h6); have HF6 := η (HFR.out.trans g6); clear h6 g6
       go_wp2_with fail
       go_roundw
       case rel => exact ⟨j + 1, hjl, by go_num, HO6.out, HF6.out⟩
       case measure => exact hms2.out
      ·obtain rfl : j = np := by omega
       go_wp2_with fail
       clear c5
       have HOX := η HOW.out; have HFX := η HFR.out
       clear HOW HFR HXR2 HBW
       go_loopw [4, 12] (fun br ir wr => ∃ i : Nat, i ≤ nq ∧ ir = .int .i64 (i : Int) ∧ OwB wr w1.heap.size br (hdrB op m d v p ++ rgsB Q F G m ++ ptsB f g j ++ qusB qf qg qd i) ∧ Fr w1.heap.size none w4 wr) (fun _ i _ => nq - (intOf i).toNat)
       case atStart => exact ⟨0, by omega, rfl, by simpa [qusB] using HOX.out, HFX.out⟩
       case round =>
        clear HOX HFX
        obtain ⟨i, hi, rfl, hown, hfr⟩ := hrel
        have HOW := η hown; have HFR := η hfr; clear hown hfr
        have HXR2 := η (HFR.out.keep _ _ _ (by decide) (by simp) HXR.out)
        have HBW := η (HB14.out.trans HFR.out.below)
        by_cases hil : i < nq
        ·have hms3 := η (show nq - (intOf (.int .i64 ((i : Int) + 1))).toNat < nq - (intOf (.int .i64 (i : Int))).toNat from by simp [intOf]; omega)
         obtain ⟨bq, oq, hbq, hbl_, hcc⟩ := HQ1.out.at_ (by omega)
         obtain rfl := hbq
         have HIS := η (HQ1.out.isi i hil)
         have HLB := η hbl_
         have HCC := η (show Qu1 w1 bq (oq + i * 3) (qf i) (qg i) (qd i) from ⟨hbl_, (hcc i hil).1, (hcc i hil).2.1, (hcc i hil).2.2⟩)
         clear hbl_ hcc
         have HLQ := η (show (hdrB op m d v p ++ rgsB Q F G m ++ ptsB f g j ++ qusB qf qg qd i).length ≤ 200000 from by have := HLS.out; have := HNP.out; rw [List.length_append, List.length_append, JP, Zb9]; omega)
         go_wp2_with fail
         have HQ2 := η (show ∀ w', Bx w' w.heap.size #[.int .i64 op, .int .i64 0, .slice (some ⟨hb_, hoff, none⟩) m hc, .int .i64 p, .slice (some ⟨b, off, none⟩) m c, .slice PA j pc, .slice (some ⟨bq, oq, none⟩) nq qc] 32 → Below w1.heap.size w1 w' → w'.cell? ⟨w.heap.size, 6, none⟩ = some (.slice (some ⟨bq, oq, none⟩) nq qc) ∧ w'.cell? ⟨bq, oq + i * 3, none⟩ = some (.int .i64 (qf i)) ∧ w'.cell? ⟨bq, oq + i * 3 + 1, none⟩ = some (.int .i64 (qg i)) ∧ w'.cell? ⟨bq, oq + i * 3 + 2, none⟩ = some (.int .u64 (qd i)) from fun w' h h' => ⟨h.cell 6 rfl, (HCC.out.below h' HLB.out).c0, (HCC.out.below h' HLB.out).c1, (HCC.out.below h' HLB.out).c2⟩)
         refine wp_region_held_drew (S := fun w' => w'.cell? ⟨w.heap.size, 6, none⟩ = some (.slice (some ⟨bq, oq, none⟩) nq qc) ∧ w'.cell? ⟨bq, oq + i * 3, none⟩ = some (.int .i64 (qf i)) ∧ w'.cell? ⟨bq, oq + i * 3 + 1, none⟩ = some (.int .i64 (qg i)) ∧ w'.cell? ⟨bq, oq + i * 3 + 2, none⟩ = some (.int .u64 (qd i))) (by kernel_rfl) (HQ2.out _ (Jf HXR2.out) HBW.out.drew) (fun hHeld => ?_)
         refine tk 0 hHeld ?_
         refine tk 1 hHeld ?_
         refine tk 2 hHeld ?_
         refine tk 3 hHeld ?_
         refine tk 4 hHeld ?_
         refine tk 5 hHeld ?_
         refine tk 6 hHeld ?_
         refine tk 8 hHeld ?_
         refine tk 9 hHeld ?_
         refine tk 10 hHeld ?_
         refine tk 11 hHeld ?_
         refine tk 12 hHeld ?_
         refine tk 13 hHeld ?_
         refine cl 7 (fun K hK => ?_)
         go_simp
         refine (Zbv w1.heap.size _ _ (qf i) (qg i) (by have := HLQ.out; omega) wr.drew HBW.out.size HOW.out.drew).mono ?_
         rintro e w6 ⟨⟨v6, rfl, h6⟩, g6⟩
         have HO6 := η h6; have HF6 := η (HFR.out.drew.trans g6); have HX6 := η (g6.keep _ _ _ (by decide) (by simp) (Jf HXR2.out)); have HB6 := η (HBW.out.drew.trans g6.below); clear h6 g6
         go_wp2_with fail
         refine hK.out _ _ (HQ2.out _ HX6.out HB6.out) (fun hHeld2 => ?_)
         clear hK K hHeld; have hHeld := hHeld2; clear hHeld2
         try simp only [Act.put, List.setIfInBounds_toArray, List.set_cons_zero, List.set_cons_succ]
         refine cl 14 (fun K hK => ?_)
         go_simp
         refine (ZaZ w1.heap.size v6 _ (qd i) HIS.out.2.2 (by have := HLQ.out; rw [List.length_append, Zcu]; omega) _ HB6.out.size HO6.out).mono ?_
         rintro e w8 ⟨⟨v8, rfl, h8⟩, g8⟩
         have HO8 := η (show OwB w8 w1.heap.size v8 (hdrB op m d v p ++ rgsB Q F G m ++ ptsB f g j ++ qusB qf qg qd (i + 1)) from by rw [qusB, quB, ← List.append_assoc, ← List.append_assoc]; exact h8); have HF8 := η (HF6.out.trans g8); have HX8 := η (g8.keep _ _ _ (by decide) (by simp) HX6.out); have HB8 := η (HB6.out.trans g8.below); clear h8 g8
         go_wp2_with fail
         refine hK.out _ _ (HQ2.out _ HX8.out HB8.out) (fun hHeld2 => ?_)
         clear hK K hHeld; have hHeld := hHeld2; clear hHeld2
         try simp only [Act.put, List.setIfInBounds_toArray, List.set_cons_zero, List.set_cons_succ]
         refine tk 15 hHeld ?_
         refine wpAnyH_done (by kernel_rfl) ?_ _
         clear hHeld
         go_wp2_with fail
         go_roundw
         case rel => exact ⟨i + 1, hil, by go_num, HO8.out, HF8.out⟩
         case measure => exact hms3.out
        ·obtain rfl : i = nq := by omega
         go_wp2_with fail
         go_ret2
         exact ⟨⟨_, rfl, HOW.out.mono HB1.out.size⟩, HB1.out.trans (HBW.out.mono HB1.out.size)⟩
theorem ZeB {P : Program} {a : Act} {w : World} {Q : Exit → Act → World → Prop} {c rest : Code} (l : Nat) (hf : findLabel c l = some rest)
  (first : c.wp P (Exit.jump l (fun a' w' => rest.wp P (Exit.jump l (fun _ _ => False) Q) a' w') Q) a w) : (Code.scope c).wp P Q a w := by
 refine wp_scope_jumps l _ (fun _ _ => 0) hf first fun a w h => ?_
 intro b k cs
 obtain ⟨e, a', w', hq, harr⟩ := h b k cs
 refine ⟨e, a', w', ?_, harr⟩
 cases e <;> first | exact hq | exact ⟨hq.1, hq.2.elim⟩
theorem Zi6 {l : Nat} {J : Act → World → Prop} {Q : Exit → Act → World → Prop} {a : Act} {w : World} : Exit.jump l J Q .ret a w = Q .ret a w := rfl
set_option maxRecDepth 100000 in
theorem Zdo (w : World) :
  Calls Tryz.prog 78 #[.slice none 0 0] w fun e w' => e = .returned (.tuple #[.agg #[.int .i64 0, .int .i64 0, .slice none 0 0, .int .i64 0], .int .i64 0, .int .i64 4]) ∧ Below w.heap.size w w' := by
 go_enter Tryz.func78, Tryz.ntmps78
 go_wp2_with fail
 refine ZeB 0 rfl ?_
 go_wp2_with fail
 refine wp_goto ?_
 refine ⟨rfl, ?_⟩
 go_wp2_with fail
 rw [Zi6]
 refine bodyPost_ret (v := .tuple #[.agg #[.int .i64 0, .int .i64 0, .slice none 0 0, .int .i64 0], .int .i64 0, .int .i64 4]) (by simp [results, Tryz.results78, go_sem]) rfl ⟨rfl, ?_⟩
 repeat (first | exact J0 | (refine J9 ?_ ?_; (focus (first | (simp; done) | omega | (simp <;> omega)))) | refine J8 ?_)
set_option maxRecDepth 100000 in
theorem Zcl (w : World) :
  Calls Tryz.prog 77 #[.slice none 0 0] w fun e w' => e = .returned (.int .i64 4) ∧ Below w.heap.size w w' := by
 go_enter Tryz.func77, Tryz.ntmps77
 go_wp2_with fail
 refine (Zdo _).mono ?_
 rintro e w1 ⟨rfl, B⟩
 have HB := η B; clear B
 go_wp2_with fail
 go_ret
 exact ⟨rfl, HB.out.alloc HB.out.size _⟩
set_option maxRecDepth 100000 in
theorem Zdp (w : World) :
  Calls Tryz.prog 54 #[.slice none 0 0] w fun e w' => e = .returned (.tuple #[.agg #[.int .i64 0, .int .i64 0, .slice none 0 0, .int .i64 0, .slice none 0 0, .slice none 0 0, .slice none 0 0], .int .i64 4]) ∧ Below w.heap.size w w' := by
 go_enter Tryz.func54, Tryz.ntmps54
 go_wp2_with fail
 have HZ := η (Bx.new w #[.int .i64 0, .int .i64 0, .slice none 0 0, .int .i64 0, .slice none 0 0, .slice none 0 0, .slice none 0 0] 99)
 have HB1 := η (show Below w.heap.size w (w.alloc (.cells #[.int .i64 0, .int .i64 0, .slice none 0 0, .int .i64 0, .slice none 0 0, .slice none 0 0, .slice none 0 0] 99)) from J8 J0)
 generalize w.alloc (.cells #[.int .i64 0, .int .i64 0, .slice none 0 0, .int .i64 0, .slice none 0 0, .slice none 0 0, .slice none 0 0] 99) = w1 at *
 refine (Zcl _).mono ?_
 rintro e w2 ⟨rfl, B⟩
 have HZ2 := η (HZ.out.below B ν); have HB2 := η (HB1.out.trans (B.mono HB1.out.size)); clear B HZ HB1
 have c0 := HZ2.out.cell 0 (v := .int .i64 0) rfl
 have z0 := HZ2.out.free 0
 have c1 := HZ2.out.cell 1 (v := .int .i64 0) rfl
 have z1 := HZ2.out.free 1
 have c2 := HZ2.out.cell 2 (v := .slice none 0 0) rfl
 have z2 := HZ2.out.free 2
 have c3 := HZ2.out.cell 3 (v := .int .i64 0) rfl
 have z3 := HZ2.out.free 3
 have c4 := HZ2.out.cell 4 (v := .slice none 0 0) rfl
 have z4 := HZ2.out.free 4
 have c5 := HZ2.out.cell 5 (v := .slice none 0 0) rfl
 have z5 := HZ2.out.free 5
 have c6 := HZ2.out.cell 6 (v := .slice none 0 0) rfl
 have z6 := HZ2.out.free 6
 go_wp2_with fail
 clear c0 z0 c1 z1 c2 z2 c3 z3 c4 z4 c5 z5 c6 z6
 have HZ3 := η (((((((HZ2.out.set 0 (.int .i64 0)).set 1 (.int .i64 0)).set 2 (.slice none 0 0)).set 3 (.int .i64 0)).set 4 (.slice none 0 0)).set 5 (.slice none 0 0)).set 6 (.slice none 0 0))
 have HB3 := η (((((((HB2.out.setCell (p := ⟨w.heap.size, 0, none⟩) ν (.int .i64 0)).setCell (p := ⟨w.heap.size, 1, none⟩) ν (.int .i64 0)).setCell (p := ⟨w.heap.size, 2, none⟩) ν (.slice none 0 0)).setCell (p := ⟨w.heap.size, 3, none⟩) ν (.int .i64 0)).setCell (p := ⟨w.heap.size, 4, none⟩) ν (.slice none 0 0)).setCell (p := ⟨w.heap.size, 5, none⟩) ν (.slice none 0 0)).setCell (p := ⟨w.heap.size, 6, none⟩) ν (.slice none 0 0))
 generalize (((((((w2.setCell ⟨w.heap.size, 0, none⟩ (.int .i64 0)).setCell ⟨w.heap.size, 1, none⟩ (.int .i64 0)).setCell ⟨w.heap.size, 2, none⟩ (.slice none 0 0)).setCell ⟨w.heap.size, 3, none⟩ (.int .i64 0)).setCell ⟨w.heap.size, 4, none⟩ (.slice none 0 0)).setCell ⟨w.heap.size, 5, none⟩ (.slice none 0 0)).setCell ⟨w.heap.size, 6, none⟩ (.slice none 0 0)) = w3 at *
 have q0 := HZ3.out.cell 0 (v := .int .i64 0) rfl
 have q1 := HZ3.out.cell 1 (v := .int .i64 0) rfl
 have q2 := HZ3.out.cell 2 (v := .slice none 0 0) rfl
 have q3 := HZ3.out.cell 3 (v := .int .i64 0) rfl
 have q4 := HZ3.out.cell 4 (v := .slice none 0 0) rfl
 have q5 := HZ3.out.cell 5 (v := .slice none 0 0) rfl
 have q6 := HZ3.out.cell 6 (v := .slice none 0 0) rfl
 refine bodyPost_ret (v := .tuple #[.agg #[.int .i64 0, .int .i64 0, .slice none 0 0, .int .i64 0, .slice none 0 0, .slice none 0 0, .slice none 0 0], .int .i64 4]) (by simp [results, Tryz.results54, go_sem, q0, q1, q2, q3, q4, q5, q6]) rfl ⟨rfl, HB3.out⟩
set_option maxRecDepth 100000 in
theorem ZgL (pe po : Nat) (w : World) (v0 : Value) (hc : w.cell? ⟨pe, 0, none⟩ = some (.int .i64 4)) (ho : w.cell? ⟨po, 0, none⟩ = some v0) (hz : w.frozen? ⟨po, 0, none⟩ = false) (u : FrameMode) :
  CallsD Tryz.prog 53 #[.pointer (some ⟨pe, 0, none⟩), .pointer (some ⟨po, 0, none⟩)] u w fun e u' w' => u' = u ∧ (e = .returned (.tuple #[]) ∧ w' = (w.setCell ⟨po, 0, none⟩ (.slice (some ⟨w.heap.size, 0, none⟩) 1 1)).alloc (.cells #[.int .u8 4] 5)) := by
 have hlt : po < w.heap.size := Zah ho
 have o0 : (w.alloc (.cells #[.int .u8 4] 5)).cell? ⟨po, 0, none⟩ = some v0 := (((Below.refl w.heap.size w).alloc ν _).cell (p := ⟨po, 0, none⟩) hlt).trans ho
 have z0 : (w.alloc (.cells #[.int .u8 4] 5)).frozen? ⟨po, 0, none⟩ = false := (((Below.refl w.heap.size w).alloc ν _).frozen (p := ⟨po, 0, none⟩) hlt).trans hz
 go_enter_d Tryz.func53, Tryz.ntmps53
 go_wp2_with fail
 go_end0
 exact ⟨rfl, rfl⟩
set_option maxRecDepth 100000 in
theorem Zdq (w : World) :
  Calls Tryz.prog 30 #[.pointer none, .slice none 0 0] w fun e w' => (∃ A' c', e = .returned (.slice A' 1 c') ∧ By w' A' c' [4]) ∧ Below w.heap.size w w' := by
 have hmf : ∀ (fn : Fn) (first cap : Array Value) (w : World), (Instr.makeFunc fn first cap).run Tryz.prog w = .ok (.func fn first cap) w := fun _ _ _ _ => rfl
 go_enter_defers Tryz.func30, Tryz.ntmps30
 go_wp2_with fail
 have HO := η (show Bx ((w.alloc (.cells #[.slice none 0 0] 24)).alloc (.cells #[.int .i64 0] 67)) w.heap.size #[.slice none 0 0] 24 from (Bx.new _ _ _).alloc _)
 have HE := η (show Bx ((w.alloc (.cells #[.slice none 0 0] 24)).alloc (.cells #[.int .i64 0] 67)) (w.heap.size + 1) #[.int .i64 0] 67 from Jb (by simp))
 have HB := η (show Below w.heap.size w ((w.alloc (.cells #[.slice none 0 0] 24)).alloc (.cells #[.int .i64 0] 67)) from J8 (J8 J0))
 generalize (w.alloc (.cells #[.slice none 0 0] 24)).alloc (.cells #[.int .i64 0] 67) = w1 at *
 refine (Zdp _).mono ?_
 rintro e w2 ⟨rfl, B⟩
 have HO2 := η (HO.out.below B ν); have HE2 := η (HE.out.below B ν); have HB2 := η (HB.out.trans (B.mono HB.out.size)); clear B HO HE HB
 have d0 := (HE2.out.alloc (.cells #[.int .i64 0, .int .i64 0, .slice none 0 0, .int .i64 0, .slice none 0 0, .slice none 0 0, .slice none 0 0] 99)).cell 0 (v := .int .i64 0) rfl
 have dz := (HE2.out.alloc (.cells #[.int .i64 0, .int .i64 0, .slice none 0 0, .int .i64 0, .slice none 0 0, .slice none 0 0, .slice none 0 0] 99)).free 0
 go_upto_region 4 with (fail)
 clear d0 dz
 have HE3 := η (show Bx ((w2.alloc (.cells #[.int .i64 0, .int .i64 0, .slice none 0 0, .int .i64 0, .slice none 0 0, .slice none 0 0, .slice none 0 0] 99)).setCell ⟨w.heap.size + 1, 0, none⟩ (.int .i64 4)) (w.heap.size + 1) #[.int .i64 4] 67 from (HE2.out.alloc _).set 0 _)
 have HO3 := η (show Bx ((w2.alloc (.cells #[.int .i64 0, .int .i64 0, .slice none 0 0, .int .i64 0, .slice none 0 0, .slice none 0 0, .slice none 0 0] 99)).setCell ⟨w.heap.size + 1, 0, none⟩ (.int .i64 4)) w.heap.size #[.slice none 0 0] 24 from (HO2.out.alloc _).other _ (by show w.heap.size ≠ w.heap.size + 1; omega))
 have HB3 := η (show Below w.heap.size w ((w2.alloc (.cells #[.int .i64 0, .int .i64 0, .slice none 0 0, .int .i64 0, .slice none 0 0, .slice none 0 0, .slice none 0 0] 99)).setCell ⟨w.heap.size + 1, 0, none⟩ (.int .i64 4)) from (HB2.out.alloc HB2.out.size _).setCell (p := ⟨w.heap.size + 1, 0, none⟩) (by show w.heap.size ≤ w.heap.size + 1; omega) _)
 generalize ((w2.alloc (.cells #[.int .i64 0, .int .i64 0, .slice none 0 0, .int .i64 0, .slice none 0 0, .slice none 0 0, .slice none 0 0] 99)).setCell ⟨w.heap.size + 1, 0, none⟩ (.int .i64 4)) = w3 at *
 clear HE2 HO2 HB2
 have e0 := HE3.out.cell 0 (v := .int .i64 4) rfl
 have o0 := HO3.out.cell 0 (v := .slice none 0 0) rfl
 have oz := HO3.out.free 0
 go_wp2_with fail
 clear e0 o0 oz
 have HE4 := η (HE3.out.other (a := ⟨w.heap.size, 0, none⟩) (.slice none 0 0) (by show w.heap.size + 1 ≠ w.heap.size; omega))
 have HO4 := η (HO3.out.set 0 (.slice none 0 0))
 have HB4 := η (HB3.out.setCell (p := ⟨w.heap.size, 0, none⟩) ν (.slice none 0 0))
 generalize w3.setCell ⟨w.heap.size, 0, none⟩ (.slice none 0 0) = w4 at *
 refine leaves_cons (f := 53) (args := #[.pointer (some ⟨w.heap.size + 1, 0, none⟩), .pointer (some ⟨w.heap.size, 0, none⟩)]) (by simp) (by simp [go_sem]) ?_
 refine (ZgL _ _ _ (.slice none 0 0) (HE4.out.cell 0 rfl) (HO4.out.cell 0 rfl) (HO4.out.free 0) _).mono ?_
 rintro e u' w'' ⟨rfl, rfl, rfl⟩
 have HO5 := η ((HO4.out.set 0 (.slice (some ⟨w4.heap.size, 0, none⟩) 1 1)).alloc (.cells #[.int .u8 4] 5))
 have HN5 := η (show Bx ((w4.setCell ⟨w.heap.size, 0, none⟩ (.slice (some ⟨w4.heap.size, 0, none⟩) 1 1)).alloc (.cells #[.int .u8 4] 5)) w4.heap.size #[.int .u8 4] 5 from Jb (by simp [World.setCell]))
 have HB5 := η (((HB4.out.setCell (p := ⟨w.heap.size, 0, none⟩) ν (.slice (some ⟨w4.heap.size, 0, none⟩) 1 1)).alloc (by have := HB4.out.size; simpa [World.setCell] using this) (.cells #[.int .u8 4] 5)))
 generalize (w4.setCell ⟨w.heap.size, 0, none⟩ (.slice (some ⟨w4.heap.size, 0, none⟩) 1 1)).alloc (.cells #[.int .u8 4] 5) = w5 at *
 have q := HO5.out.cell 0 (v := .slice (some ⟨w4.heap.size, 0, none⟩) 1 1) rfl
 refine ⟨.slice (some ⟨w4.heap.size, 0, none⟩) 1 1, by simp [results, Tryz.results30, go_sem, q], ⟨some ⟨w4.heap.size, 0, none⟩, 1, rfl, ?_⟩, HB5.out⟩
 refine ⟨by decide, by decide, fun _ => ⟨w4.heap.size, 0, rfl, HN5.out.lt, fun i x hi => ?_⟩⟩
 match i, hi with
 | 0, hi => simp at hi; subst hi; exact HN5.out.cell 0 rfl
 | i + 1, hi => simp at hi
set_option maxRecDepth 100000 in
theorem ZbJ (w : World) :
  Calls Tryz.prog 11 #[.slice none 0 0] w fun e w' => (∃ A' c', e = .returned (.slice A' 1 c') ∧ By w' A' c' [4]) ∧ Below w.heap.size w w' := by
 go_enter Tryz.func11, Tryz.ntmps11
 go_wp2_with fail
 refine (Zdq _).mono ?_
 rintro e w' ⟨⟨A', c', rfl, hy⟩, B⟩
 have HY := η hy; have HB := η B; clear hy B
 go_wp2_with fail
 go_ret
 exact ⟨⟨A', c', rfl, HY.out⟩, HB.out⟩
set_option maxRecDepth 100000 in
theorem Zfh (A : Option Addr) (c : Nat) (f g : Nat → Int) (w : World) (hT : TabM w) (hF : TabF w) (hi : ∀ i, i < 3 → IsI (f i) ∧ IsI (g i)) (hb : By w A c (1 :: ptsB f g 3)) :
  Calls Tryz.prog 11 #[.slice A 49 c] w fun e w' => (∃ A' c', e = .returned (.slice A' 2 c') ∧ By w' A' c' [0, sg (det (f 0) (g 0) (f 1) (g 1) (f 2) (g 2)) + 1]) ∧ Below w.heap.size w w' := by
 have HC := η (Zew A c f g w hT hF hi hb); clear hT hF hi hb
 go_enter Tryz.func11, Tryz.ntmps11
 go_wp2_with fail
 refine HC.out.mono ?_
 rintro e w' ⟨⟨A', c', rfl, hy⟩, B⟩
 have HY := η hy; have HB := η B; clear hy B
 go_wp2_with fail
 go_ret
 exact ⟨⟨A', c', rfl, HY.out⟩, HB.out⟩
theorem By.bytesIn {w : World} {A : Option Addr} {c : Nat} {l : List Int} (h : By w A c l) : Lib.BytesIn w A l.length l := by
 intro h0
 obtain ⟨b, off, e, hlt, hc⟩ := h.at_ h0
 exact ⟨b, off, e, fun i hi => hc i _ (by rw [List.getD_eq_getElem?_getD, List.getElem?_eq_getElem hi]; rfl)⟩
set_option maxRecDepth 100000 in
theorem ZaN (A B : Option Addr) (c d : Nat) (l : List Int) (w : World) (h1 : By w A c l) (h2 : By w B d l) :
  Calls Tryz.prog 10 #[.slice A l.length c, .slice B l.length d] w fun e w' => e = .returned (.bool true) ∧ w = w' := by
 have k1 := h1.bytesIn.convert rfl c 24 5 9 Tryz.underlying24 Tryz.underlying5 Tryz.underlying9
 have k2 := h2.bytesIn.convert rfl d 24 5 9 Tryz.underlying24 Tryz.underlying5 Tryz.underlying9
 clear h1 h2
 generalize l.length = n at *
 go_enter Tryz.func10, Tryz.ntmps10
 go_wp2_with fail
 go_ret
 exact ⟨rfl, rfl⟩
def sX : Nat → Int := fun i => if i = 1 then 1 else 0
def sY : Nat → Int := fun i => if i = 2 then 1 else 0
theorem Zk1 (i : Nat) : IsI (sX i) ∧ IsI (sY i) := by
 unfold sX sY IsI; constructor <;> split <;> omega
noncomputable def z49 : Array Value := madeCells #[.int .u8 0] 49
theorem Zk2 : z49[0]? = some (.int .u8 0) := by kernel_rfl
theorem ZjD : z49[17]? = some (.int .u8 0) := by kernel_rfl
theorem ZjE : z49[41]? = some (.int .u8 0) := by kernel_rfl
theorem ZfX : ((z49.setIfInBounds 0 (.int .u8 1)).setIfInBounds 17 (.int .u8 1)).setIfInBounds 41 (.int .u8 1) = (Jz (1 :: ptsB sX sY 3)).toArray := by kernel_rfl
theorem Zeb : (1 :: ptsB sX sY 3).length = 49 := by rw [List.length_cons, JP]
theorem ZgM {w : World} {b : Nat} {l : List Int} {t : TypeId} (h : Bx w b (Jz l).toArray t) (hm : l.length ≤ maxLen) : By w (some ⟨b, 0, none⟩) l.length l :=
 ⟨Nat.le_refl _, hm, fun _ => ⟨b, 0, rfl, h.lt, fun i x hi => by rw [Nat.zero_add]; exact h.cell i (by simp [Jz, hi])⟩⟩
theorem ZiS (w : World) : (Instr.makeSlice 24 (.int .i64 49) (.int .i64 49)).run Tryz.prog w = .ok (.slice (some ⟨w.heap.size, 0, none⟩) 49 49) (w.alloc (.cells z49 5)) := by kernel_rfl
set_option maxRecDepth 100000 in
theorem Zb3 (w : World) (hT : TabM w) (hF : TabF w) :
  Calls Tryz.prog 9 #[] w fun e w' => e = .returned (.bool true) ∧ Below w.heap.size w w' := by
 have hmk := ZiS
 have HT := η hT; have HF := η hF; clear hT hF
 go_enter Tryz.func9, Tryz.ntmps9
 go_upto_region 2 with (fail)
 have HX := η (Bx.new w z49 5)
 have HB1 := η (show Below w.heap.size w (w.alloc (.cells z49 5)) from J8 J0)
 generalize w.alloc (.cells z49 5) = w1 at *
 have c0 := HX.out.cell 0 Zk2
 have c1 := HX.out.cell 17 ZjD
 have c2 := HX.out.cell 41 ZjE
 have z0 := HX.out.free 0
 have z1 := HX.out.free 17
 have z2 := HX.out.free 41
 go_upto_region 3 with (fail)
 clear c0 c1 c2 z0 z1 z2 hmk
 have HY2 := η (show By (((w1.setCell ⟨w.heap.size, 0, none⟩ (.int .u8 1)).setCell ⟨w.heap.size, 17, none⟩ (.int .u8 1)).setCell ⟨w.heap.size, 41, none⟩ (.int .u8 1)) (some ⟨w.heap.size, 0, none⟩) 49 (1 :: ptsB sX sY 3) from by
  have h := ((HX.out.set 0 (.int .u8 1)).set 17 (.int .u8 1)).set 41 (.int .u8 1)
  rw [ZfX] at h
  have h2 := ZgM h (by rw [Zeb]; decide)
  rw [Zeb] at h2; exact h2)
 have HB2 := η (show Below w.heap.size w (((w1.setCell ⟨w.heap.size, 0, none⟩ (.int .u8 1)).setCell ⟨w.heap.size, 17, none⟩ (.int .u8 1)).setCell ⟨w.heap.size, 41, none⟩ (.int .u8 1)) from ((HB1.out.setCell (p := ⟨w.heap.size, 0, none⟩) ν _).setCell (p := ⟨w.heap.size, 17, none⟩) ν _).setCell (p := ⟨w.heap.size, 41, none⟩) ν _)
 generalize ((w1.setCell ⟨w.heap.size, 0, none⟩ (.int .u8 1)).setCell ⟨w.heap.size, 17, none⟩ (.int .u8 1)).setCell ⟨w.heap.size, 41, none⟩ (.int .u8 1) = w2 at *
 clear HX HB1
 go_wp2_with fail
 refine (ZbJ _).mono ?_
 rintro e w3 ⟨⟨A3, c3, rfl, hy3⟩, B3⟩
 have HY3 := η (HY2.out.below B3 ν); have HB3 := η (HB2.out.trans (B3.mono HB2.out.size)); clear hy3 B3 HY2 HB2
 go_wp2_with fail
 refine (Zfh (some ⟨w.heap.size, 0, none⟩) 49 sX sY _ (HT.out.below HB3.out ν) (HF.out.below HB3.out ν) (fun i _ => Zk1 i) HY3.out).mono ?_
 rintro e w4 ⟨⟨A4, c4, rfl, hy4⟩, B4⟩
 rw [show sg (det (sX 0) (sY 0) (sX 1) (sY 1) (sX 2) (sY 2)) + 1 = 2 from by decide] at hy4
 have HY4 := η hy4; have HB4 := η (HB3.out.trans (B4.mono HB3.out.size)); clear hy4 B4 HY3 HB3
 go_wp2_with fail
 have HE4 := η (ZaN A4 (some ⟨w4.heap.size, 0, none⟩) c4 2 [0, 2] (w4.alloc (.cells #[.int .u8 0, .int .u8 2] 5)) (HY4.out.alloc _) (ZgM (l := [0, 2]) (Bx.new w4 _ 5) (by decide)))
 have HB5 := η (HB4.out.alloc HB4.out.size (.cells #[.int .u8 0, .int .u8 2] 5))
 clear HY4 HB4
 refine HE4.out.mono ?_
 rintro e w5 ⟨rfl, rfl⟩
 clear HE4
 go_wp2_with fail
 refine (ZbJ _).mono ?_
 rintro e w6 ⟨⟨A6, c6, rfl, hy6⟩, B6⟩
 have HY6 := η hy6; have HB6 := η (HB5.out.trans (B6.mono HB5.out.size)); clear hy6 B6 HB5
 go_wp2_with fail
 have HE6 := η (ZaN A6 (some ⟨w6.heap.size, 0, none⟩) c6 1 [4] (w6.alloc (.cells #[.int .u8 4] 5)) (HY6.out.alloc _) (ZgM (l := [4]) (Bx.new w6 _ 5) (by decide)))
 have HB7 := η (HB6.out.alloc HB6.out.size (.cells #[.int .u8 4] 5))
 clear HY6 HB6
 refine HE6.out.mono ?_
 rintro e w7 ⟨rfl, rfl⟩
 clear HE6
 go_wp2_with fail
 go_ret
 exact ⟨rfl, HB7.out⟩
theorem OwB.by' {w : World} {base : Nat} {v : Value} {l : List Int} (h : OwB w base v l) : ∃ A N c, v = .slice A N c ∧ l.length = N ∧ By w A c l := by
 obtain ⟨A, c, h1, h2⟩ := h.by
 exact ⟨A, _, c, h1, rfl, h2⟩
set_option maxRecDepth 100000 in
theorem Zfi (op p : Int) (np nq : Nat) (hop : OpN op p np nq) (HA : Option Addr) (hc : Nat) (Qh : Nat → Option Addr × Nat × Nat) (A : Option Addr) (n c : Nat) (d : Nat → Bool) (v : Nat → Int) (Q : Nat → Option Addr × Nat × Nat) (F G : Nat → Nat → Int) (PA : Option Addr) (pc : Nat) (f g : Nat → Int) (QA : Option Addr) (qc : Nat) (qf qg qd : Nat → Int) (w : World)
  (hh : Rgs w HA n hc d v Qh) (hq : ∀ k, k < n → (Qh k).2.1 = 0) (hr : Rgs w A n c d v Q) (hp : RgP w n Q F G) (ho : OkR n v Q) (hpp : Pts w PA np pc f g) (hqq : Qus w QA nq qc qf qg qd) :
  Calls Tryz.prog 8 #[.agg #[.int .i64 op, .int .i64 0, .slice HA n hc, .int .i64 p, .slice A n c, .slice PA np pc, .slice QA nq qc]] w fun e w' => (∃ A' N c', e = .returned (.slice A' N c') ∧ (reqB op n d v p Q F G np f g nq qf qg qd).length = N ∧ By w' A' c' (reqB op n d v p Q F G np f g nq qf qg qd)) ∧ Below w.heap.size w w' := by
 have HE := η (ZeA op p np nq hop HA hc Qh A n c d v Q F G PA pc f g QA qc qf qg qd (w.alloc (.cells #[.int .i64 op, .int .i64 0, .slice HA n hc, .int .i64 p, .slice A n c, .slice PA np pc, .slice QA nq qc] 32)) (hh.alloc _) hq (hr.alloc _) (hp.alloc _) ho (hpp.alloc _) (hqq.alloc _))
 clear hop hh hq hr hp ho hpp hqq
 have HB1 := η (show Below w.heap.size w (w.alloc (.cells #[.int .i64 op, .int .i64 0, .slice HA n hc, .int .i64 p, .slice A n c, .slice PA np pc, .slice QA nq qc] 32)) from J8 J0)
 generalize hL : reqB op n d v p Q F G np f g nq qf qg qd = L at *
 go_enter Tryz.func8, Tryz.ntmps8
 go_wp2_with fail
 refine HE.out.mono ?_
 rintro e w2 ⟨⟨v, rfl, ho2⟩, B⟩
 obtain ⟨A', N, c', rfl, hN, hy⟩ := ho2.by'
 have HY := η hy; have HB := η (HB1.out.trans (B.mono HB1.out.size)); have HN := η hN
 clear hy ho2 B hN
 go_wp2_with fail
 go_ret
 exact ⟨⟨A', N, c', rfl, HN.out, HY.out⟩, HB.out⟩
theorem Qus.nil (w : World) (f g d : Nat → Int) : Qus w none 0 0 f g d :=
 ⟨Nat.le_refl _, Nat.zero_le _, fun i hi => absurd hi (Nat.not_lt_zero _), fun h => absurd h (Nat.lt_irrefl _)⟩
theorem Pts.nil (w : World) (f g : Nat → Int) : Pts w none 0 0 f g :=
 ⟨Nat.le_refl _, Nat.zero_le _, fun i hi => absurd hi (Nat.not_lt_zero _), fun h => absurd h (Nat.lt_irrefl _)⟩
set_option maxRecDepth 100000 in
theorem Zhj (A : Option Addr) (n c : Nat) (d : Nat → Bool) (v : Nat → Int) (Q : Nat → Option Addr × Nat × Nat) (F G : Nat → Nat → Int) (QA : Option Addr) (nq qc : Nat) (qf qg qd : Nat → Int) (ho : OkR n v Q) (h0 : 1 ≤ nq) (h9 : nq ≤ 4096) (w : World) (hr : Rgs w A n c d v Q) (hp : RgP w n Q F G) (hqq : Qus w QA nq qc qf qg qd) :
  Calls Tryz.prog 25 #[.slice A n c, .slice QA nq qc] w fun e w' => (∃ A' N c', e = .returned (.slice A' N c') ∧ (reqB 5 n d v nq Q F G 0 qf qg nq qf qg qd).length = N ∧ By w' A' c' (reqB 5 n d v nq Q F G 0 qf qg nq qf qg qd)) ∧ Below w.heap.size w w' := by
 have HO := η ho; have HR := η hr; have HP := η hp; have HQ := η hqq; have H0 := η h0; have H9 := η h9
 clear ho hr hp hqq h0 h9
 go_enter Tryz.func25, Tryz.ntmps25
 go_wp2_with fail
 refine (Zdn A n c d v Q HO.out.toOkK _ HR.out).mono ?_
 rintro e w2 ⟨⟨g, rc, rfl, hg⟩, B⟩
 have HG := η hg; have HB := η B; clear hg B
 go_wp2_with fail
 refine (Zfi 5 nq 0 nq (.inr ⟨rfl, by have := H0.out; omega, by have := H9.out; omega, rfl, rfl⟩) _ rc Q0 A n c d v Q F G none 0 qf qg QA qc qf qg qd _ HG.out (fun _ _ => rfl) (HR.out.below HB.out ν) (HP.out.below HB.out ν) HO.out (Pts.nil _ _ _) (HQ.out.below HB.out ν)).mono ?_
 rintro e w3 ⟨⟨A', N, c', rfl, hN, hy⟩, B⟩
 have HN := η hN; have HY := η hy; have HB3 := η (HB.out.trans (B.mono HB.out.size)); clear hN hy B
 go_wp2_with fail
 go_ret
 exact ⟨⟨A', N, c', rfl, HN.out, HY.out⟩, HB3.out⟩
end Go.Proofs.YtjdiilkljgljkaaGreatDoor
namespace Go.Proofs.YtjdiilkljgljkaaGreatDoor
set_option linter.unusedVariables false
set_option linter.unusedSimpArgs false
def Bt (C : Nat → Bool) (a m : Nat) : Prop := ∀ i j k l, i < j → j < k → k < l → l < m → ¬ (C (a + i) ≠ C (a + j) ∧ C (a + j) ≠ C (a + k) ∧ C (a + k) ≠ C (a + l))
theorem ZiT : ∀ x0 x1 x2 x3 y0 y1 y2 y3 : Bool,
  ¬ (x0 ≠ x1 ∧ x1 ≠ x2 ∧ x2 ≠ x3) → ¬ (y0 ≠ y1 ∧ y1 ≠ y2 ∧ y2 ≠ y3) → ¬ (x0 ≠ x1 ∧ x1 ≠ x2 ∧ x2 ≠ y3) → ¬ (x2 ≠ x3 ∧ x3 ≠ y0 ∧ y0 ≠ y1) → ¬ (x0 ≠ x1 ∧ x1 ≠ y2 ∧ y2 ≠ y3) → ¬ (x1 ≠ x2 ∧ x2 ≠ y0 ∧ y0 ≠ y1) → ¬ (x1 ≠ x2 ∧ x2 ≠ y2 ∧ y2 ≠ y3) →
  ¬ ((x0 && y0) ≠ (x1 && y1) ∧ (x1 && y1) ≠ (x2 && y2) ∧ (x2 && y2) ≠ (x3 && y3)) := by
 intro x0 x1 x2 x3 y0 y1 y2 y3
 cases x0 <;> cases x1 <;> cases x2 <;> cases x3 <;> cases y0 <;> cases y1 <;> cases y2 <;> cases y3 <;> decide
theorem ZjF : ∀ x0 x1 x2 x3 y0 y1 y2 y3 : Bool,
  ¬ (x0 ≠ x1 ∧ x1 ≠ x2 ∧ x2 ≠ x3) → ¬ (y0 ≠ y1 ∧ y1 ≠ y2 ∧ y2 ≠ y3) → ¬ (x0 ≠ x1 ∧ x1 ≠ x2 ∧ x2 ≠ y3) → ¬ (x2 ≠ x3 ∧ x3 ≠ y0 ∧ y0 ≠ y1) → ¬ (x0 ≠ x1 ∧ x1 ≠ y2 ∧ y2 ≠ y3) → ¬ (x1 ≠ x2 ∧ x2 ≠ y0 ∧ y0 ≠ y1) → ¬ (x1 ≠ x2 ∧ x2 ≠ y2 ∧ y2 ≠ y3) →
  ¬ ((x0 || y0) ≠ (x1 || y1) ∧ (x1 || y1) ≠ (x2 || y2) ∧ (x2 || y2) ≠ (x3 || y3)) := by
 intro x0 x1 x2 x3 y0 y1 y2 y3
 cases x0 <;> cases x1 <;> cases x2 <;> cases x3 <;> cases y0 <;> cases y1 <;> cases y2 <;> cases y3 <;> decide
structure Half (C C' : Nat → Bool) (a m : Nat) : Prop where
 lo : ∀ i, i < m → C' (a + i) = (C (a + i) && C (a + m + i))
 hi : ∀ i, i < m → C' (a + m + i) = (C (a + i) || C (a + m + i))
theorem Half.parts {C C' : Nat → Bool} {a m : Nat} (h : Half C C' a m) (hb : Bt C a (2 * m)) :
  Bt C' a m ∧ Bt C' (a + m) m ∧ ∀ i j, i < m → j < m → C' (a + i) = true → C' (a + m + j) = true := by
 have B : ∀ i j k l, i < j → j < k → k < l → l < 2 * m → ¬ (C (a + i) ≠ C (a + j) ∧ C (a + j) ≠ C (a + k) ∧ C (a + k) ≠ C (a + l)) := hb
 have R : ∀ i, C (a + m + i) = C (a + (m + i)) := fun i => by rw [Nat.add_assoc]
 refine ⟨fun i j k l h1 h2 h3 h4 => ?_, fun i j k l h1 h2 h3 h4 => ?_, fun i j hi hj h1 => ?_⟩
 ·rw [h.lo i (by omega), h.lo j (by omega), h.lo k (by omega), h.lo l (by omega), R, R, R, R]
  exact ZiT _ _ _ _ _ _ _ _ (B i j k l h1 h2 h3 (by omega)) (B (m + i) (m + j) (m + k) (m + l) (by omega) (by omega) (by omega) (by omega)) (B i j k (m + l) h1 h2 (by omega) (by omega)) (B k l (m + i) (m + j) h3 (by omega) (by omega) (by omega)) (B i j (m + k) (m + l) h1 (by omega) (by omega) (by omega)) (B j k (m + i) (m + j) h2 (by omega) (by omega) (by omega)) (B j k (m + k) (m + l) h2 (by omega) (by omega) (by omega))
 ·rw [h.hi i (by omega), h.hi j (by omega), h.hi k (by omega), h.hi l (by omega), R, R, R, R]
  exact ZjF _ _ _ _ _ _ _ _ (B i j k l h1 h2 h3 (by omega)) (B (m + i) (m + j) (m + k) (m + l) (by omega) (by omega) (by omega) (by omega)) (B i j k (m + l) h1 h2 (by omega) (by omega)) (B k l (m + i) (m + j) h3 (by omega) (by omega) (by omega)) (B i j (m + k) (m + l) h1 (by omega) (by omega) (by omega)) (B j k (m + i) (m + j) h2 (by omega) (by omega) (by omega)) (B j k (m + k) (m + l) h2 (by omega) (by omega) (by omega))
 ·rw [h.lo i hi, R, Bool.and_eq_true] at h1
  rw [h.hi j hj, R]
  rcases Nat.lt_trichotomy i j with hij | rfl | hij
  ·have := B i j (m + i) (m + j) hij (by omega) (by omega) (by omega)
   revert this; rw [h1.1, h1.2]
   cases C (a + j) <;> cases C (a + (m + j)) <;> simp
  ·rw [h1.1]; rfl
  ·have := B j i (m + j) (m + i) hij (by omega) (by omega) (by omega)
   revert this; rw [h1.1, h1.2]
   cases C (a + j) <;> cases C (a + (m + j)) <;> simp
def Up (C : Nat → Bool) (a m : Nat) : Prop := ∀ i j, i < j → j < m → C (a + i) = true → C (a + j) = true
theorem Up.bt {C : Nat → Bool} {a m : Nat} (h : Up C a m) (h2 : ∀ i j, i < j → j < m → C (a + m + j) = true → C (a + m + i) = true) : Bt C a (2 * m) := by
 intro i j k l h1 h3 h4 h5 ⟨n1, n2, n3⟩
 have R : ∀ i, m ≤ i → C (a + i) = C (a + m + (i - m)) := fun i hi => by rw [Nat.add_assoc, show m + (i - m) = i by omega]
 have up : ∀ i j, i < j → j < m → C (a + i) ≠ C (a + j) → C (a + i) = false ∧ C (a + j) = true := fun i j hij hj hn => by
  cases e : C (a + i) <;> cases e2 : C (a + j)
  ·rw [e, e2] at hn; exact absurd rfl hn
  ·exact ⟨rfl, rfl⟩
  ·rw [h i j hij hj e] at e2; cases e2
  ·rw [e, e2] at hn; exact absurd rfl hn
 have dn : ∀ i j, m ≤ i → i < j → j < 2 * m → C (a + i) ≠ C (a + j) → C (a + i) = true ∧ C (a + j) = false := fun i j hmi hij hj hn => by
  cases e : C (a + i) <;> cases e2 : C (a + j)
  ·rw [e, e2] at hn; exact absurd rfl hn
  ·have := h2 (i - m) (j - m) (by omega) (by omega) (by rw [← R j (by omega)]; exact e2)
   rw [← R i hmi, e] at this; cases this
  ·exact ⟨rfl, rfl⟩
  ·rw [e, e2] at hn; exact absurd rfl hn
 rcases Nat.lt_or_ge j m with hj | hj
 ·obtain ⟨u1, u2⟩ := up i j h1 hj n1
  rcases Nat.lt_or_ge k m with hk | hk
  ·have := (up j k h3 hk n2).1; rw [u2] at this; cases this
  ·have e := dn k l hk h4 h5 n3
   rw [u2, e.1] at n2; exact absurd rfl n2
 ·have e1 := dn j k hj h3 (by omega) n2
  have e2 := dn k l (by omega) h4 h5 n3
  rw [e1.2] at e2; cases e2.1
theorem Bt.not {C : Nat → Bool} {a m : Nat} (h : Bt C a m) : Bt (fun i => !C i) a m := by
 intro i j k l h1 h2 h3 h4 ⟨n1, n2, n3⟩
 exact h i j k l h1 h2 h3 h4 ⟨fun e => n1 (by simp [e]), fun e => n2 (by simp [e]), fun e => n3 (by simp [e])⟩
theorem Bt.congr {C D : Nat → Bool} {a m : Nat} (h : Bt C a m) (e : ∀ i, i < m → C (a + i) = D (a + i)) : Bt D a m := by
 intro i j k l h1 h2 h3 h4
 rw [← e i (by omega), ← e j (by omega), ← e k (by omega), ← e l (by omega)]
 exact h i j k l h1 h2 h3 h4
def bit (b i : Nat) : Bool := decide (i / 2 ^ b % 2 = 1)
theorem Zdr {b i : Nat} : bit b i = false ↔ i / 2 ^ b % 2 = 0 := by unfold bit; simp
def hcl (f : Nat → Int) (s b : Nat) : Nat → Int := fun i =>
 if bit b i = false then (if bit s i = false then min (f i) (f (i + 2 ^ b)) else max (f i) (f (i + 2 ^ b)))
 else (if bit s i = false then max (f (i - 2 ^ b)) (f i) else min (f (i - 2 ^ b)) (f i))
theorem Zge (t a b : Int) : decide (t ≤ min a b) = (decide (t ≤ a) && decide (t ≤ b)) := by
 rw [Bool.eq_iff_iff]; simp; omega
theorem Zgf (t a b : Int) : decide (t ≤ max a b) = (decide (t ≤ a) || decide (t ≤ b)) := by
 rw [Bool.eq_iff_iff]; simp; omega
def thr (f : Nat → Int) (s : Nat) (t : Int) (i : Nat) : Bool := (decide (t ≤ f i)) ^^ bit s i
theorem ZiU {b s : Nat} (h : b < s) : 2 ^ s = 2 ^ (b + 1) * 2 ^ (s - (b + 1)) := by rw [← Nat.pow_add]; congr 1; omega
theorem Zec {b s q i j : Nat} (h : b ≤ s) (hi : i < 2 ^ b) (hj : j < 2 ^ b) : bit s (q * 2 ^ b + i) = bit s (q * 2 ^ b + j) := by
 unfold bit
 have e : 2 ^ s = 2 ^ b * 2 ^ (s - b) := by rw [← Nat.pow_add]; congr 1; omega
 have hp : 0 < 2 ^ b := Nat.two_pow_pos b
 have k : ∀ i, i < 2 ^ b → (q * 2 ^ b + i) / 2 ^ s = q / 2 ^ (s - b) := fun i hi => by
  rw [e, ← Nat.div_div_eq_div_mul, Nat.mul_comm q, Nat.mul_add_div hp, Nat.div_eq_of_lt hi, Nat.add_zero]
 rw [k i hi, k j hj]
theorem Zd0 (f : Nat → Int) {s b : Nat} (h : b < s) (t : Int) (q : Nat) : Half (thr f s t) (thr (hcl f s b) s t) (q * 2 ^ (b + 1)) (2 ^ b) := by
 have hp : 0 < 2 ^ b := Nat.two_pow_pos b
 have hpp : 2 ^ (b + 1) = 2 ^ b * 2 := Nat.pow_succ 2 b
 have blo : ∀ i, i < 2 ^ b → bit b (q * 2 ^ (b + 1) + i) = false := fun i hi => by
  rw [Zdr, show q * 2 ^ (b + 1) + i = 2 ^ b * (q * 2) + i by rw [hpp, Nat.mul_comm (2 ^ b) 2, ← Nat.mul_assoc, Nat.mul_comm (q * 2)], Nat.mul_add_div hp, Nat.div_eq_of_lt hi]; omega
 have bhi : ∀ i, i < 2 ^ b → bit b (q * 2 ^ (b + 1) + 2 ^ b + i) = true := fun i hi => by
  unfold bit
  rw [show q * 2 ^ (b + 1) + 2 ^ b + i = 2 ^ b * (q * 2 + 1) + i by rw [hpp, Nat.mul_add, Nat.mul_comm (2 ^ b) 2, ← Nat.mul_assoc, Nat.mul_comm (q * 2), Nat.mul_one], Nat.mul_add_div hp, Nat.div_eq_of_lt hi]; simp
 have sd : ∀ i, i < 2 ^ b → bit s (q * 2 ^ (b + 1) + 2 ^ b + i) = bit s (q * 2 ^ (b + 1) + i) := fun i hi => by
  rw [Nat.add_assoc]; exact Zec (by omega) (by omega) (by omega)
 constructor
 ·intro i hi
  unfold thr hcl
  rw [blo i hi, if_pos rfl, sd i hi, show q * 2 ^ (b + 1) + i + 2 ^ b = q * 2 ^ (b + 1) + 2 ^ b + i by omega]
  cases bit s (q * 2 ^ (b + 1) + i)
  ·rw [if_pos rfl, Zge]; simp
  ·rw [if_neg (by simp), Zgf]; simp
 ·intro i hi
  unfold thr hcl
  rw [bhi i hi, if_neg (by simp), sd i hi, show q * 2 ^ (b + 1) + 2 ^ b + i - 2 ^ b = q * 2 ^ (b + 1) + i by omega]
  cases bit s (q * 2 ^ (b + 1) + i)
  ·rw [if_pos rfl, Zgf]; simp
  ·rw [if_neg (by simp), Zge]; simp
structure Inv (f : Nat → Int) (s b : Nat) : Prop where
 bt : ∀ t q, Bt (thr f s t) (q * 2 ^ b) (2 ^ b)
 up : ∀ t i j, i / 2 ^ s = j / 2 ^ s → i / 2 ^ b < j / 2 ^ b → thr f s t i = true → thr f s t j = true
theorem Inv.round {f : Nat → Int} {s b : Nat} (h : Inv f s (b + 1)) (hb : b < s) : Inv (hcl f s b) s b := by
 have hp : 0 < 2 ^ b := Nat.two_pow_pos b
 have hpp : 2 ^ (b + 1) = 2 * 2 ^ b := by rw [Nat.pow_succ, Nat.mul_comm]
 have P : ∀ t q, Bt (thr (hcl f s b) s t) (q * 2 ^ (b + 1)) (2 ^ b) ∧ Bt (thr (hcl f s b) s t) (q * 2 ^ (b + 1) + 2 ^ b) (2 ^ b) ∧ ∀ i j, i < 2 ^ b → j < 2 ^ b → thr (hcl f s b) s t (q * 2 ^ (b + 1) + i) = true → thr (hcl f s b) s t (q * 2 ^ (b + 1) + 2 ^ b + j) = true :=
  fun t q => (Zd0 f hb t q).parts (by rw [← hpp]; exact h.bt t q)
 refine ⟨fun t q => ?_, fun t i j hs hlt hi => ?_⟩
 ·rcases Nat.mod_two_eq_zero_or_one q with e | e
  ·have := (P t (q / 2)).1
   rwa [show q / 2 * 2 ^ (b + 1) = q * 2 ^ b by rw [hpp, ← Nat.mul_assoc]; congr 1; omega] at this
  ·have := (P t (q / 2)).2.1
   rwa [show q / 2 * 2 ^ (b + 1) + 2 ^ b = q * 2 ^ b by rw [hpp, ← Nat.mul_assoc, show q = q / 2 * 2 + 1 by omega, Nat.add_mul, Nat.one_mul]; congr 2; omega] at this
 ·
  have hdiv : ∀ i, i / 2 ^ (b + 1) = i / 2 ^ b / 2 := fun i => by rw [hpp, Nat.mul_comm, Nat.div_div_eq_div_mul]
  have dec : ∀ i, i = (i / 2 ^ (b + 1)) * 2 ^ (b + 1) + (if i / 2 ^ b % 2 = 1 then 2 ^ b else 0) + i % 2 ^ b := fun i => by
   have h1 := Nat.div_add_mod i (2 ^ b)
   rw [hdiv, hpp, ← Nat.mul_assoc]
   have h2 : i / 2 ^ b = i / 2 ^ b / 2 * 2 + i / 2 ^ b % 2 := by omega
   generalize i / 2 ^ b = c at *
   rw [← Nat.mul_comm, h2, Nat.add_mul] at h1
   split
   ·rename_i e; rw [e, Nat.one_mul] at h1; exact h1.symm
   ·rename_i e; rw [show c % 2 = 0 by omega, Nat.zero_mul] at h1; exact h1.symm
  rcases Nat.lt_or_ge (i / 2 ^ (b + 1)) (j / 2 ^ (b + 1)) with hq | hq
  ·
   have U : ∀ x y, x < 2 ^ (b + 1) → y < 2 ^ (b + 1) → thr f s t (i / 2 ^ (b + 1) * 2 ^ (b + 1) + x) = true → thr f s t (j / 2 ^ (b + 1) * 2 ^ (b + 1) + y) = true := fun x y hx hy hv => by
    refine h.up t _ _ ?_ ?_ hv
    ·have e : 2 ^ s = 2 ^ (b + 1) * 2 ^ (s - (b + 1)) := ZiU hb
     have k : ∀ z x, x < 2 ^ (b + 1) → (z / 2 ^ (b + 1) * 2 ^ (b + 1) + x) / 2 ^ s = z / 2 ^ s := fun z x hx => by
      rw [e, ← Nat.div_div_eq_div_mul, ← Nat.div_div_eq_div_mul, Nat.mul_comm, Nat.mul_add_div (Nat.two_pow_pos _), Nat.div_eq_of_lt hx, Nat.add_zero]
     rw [k i x hx, k j y hy]; exact hs
    ·rw [Nat.mul_comm, Nat.mul_add_div (Nat.two_pow_pos _), Nat.div_eq_of_lt hx, Nat.mul_comm (j / 2 ^ (b + 1)), Nat.mul_add_div (Nat.two_pow_pos _), Nat.div_eq_of_lt hy]; omega
   have Hi := Zd0 f hb t (i / 2 ^ (b + 1))
   have Hj := Zd0 f hb t (j / 2 ^ (b + 1))
   have mi := Nat.mod_lt i hp
   have mj := Nat.mod_lt j hp
   have hv : ∃ x, x < 2 ^ (b + 1) ∧ thr f s t (i / 2 ^ (b + 1) * 2 ^ (b + 1) + x) = true := by
    rw [dec i] at hi
    split at hi
    ·rw [Hi.hi _ mi, Bool.or_eq_true] at hi
     rcases hi with hi | hi
     ·exact ⟨_, by omega, hi⟩
     ·exact ⟨2 ^ b + i % 2 ^ b, by omega, by rw [← Nat.add_assoc]; exact hi⟩
    ·rw [Nat.add_zero, Hi.lo _ mi, Bool.and_eq_true] at hi
     exact ⟨_, by omega, hi.1⟩
   obtain ⟨x, hx, hv⟩ := hv
   rw [dec j]
   split
   ·rw [Hj.hi _ mj, U x (j % 2 ^ b) hx (by omega) hv]; rfl
   ·rw [Nat.add_zero, Hj.lo _ mj, U x (j % 2 ^ b) hx (by omega) hv, Nat.add_assoc, U x (2 ^ b + j % 2 ^ b) hx (by omega) hv]; rfl
  ·
   have eq : i / 2 ^ (b + 1) = j / 2 ^ (b + 1) := by rw [hdiv, hdiv] at *; omega
   have ei : i / 2 ^ b % 2 = 0 := by rw [hdiv, hdiv] at eq; omega
   have ej : j / 2 ^ b % 2 = 1 := by rw [hdiv, hdiv] at eq; omega
   rw [dec i, if_neg (by omega), Nat.add_zero] at hi
   rw [dec j, if_pos ej, ← eq]
   exact (P t (i / 2 ^ (b + 1))).2.2 _ _ (Nat.mod_lt i hp) (Nat.mod_lt j hp) hi
def cge (f : Nat → Int) (t : Int) : Nat → Nat
 | 0 => 0
 | n + 1 => cge f t n + (if t ≤ f n then 1 else 0)
def SrtN (f : Nat → Int) (n : Nat) : Prop := ∀ i j, i < j → j < n → f i ≤ f j
theorem JN {f g : Nat → Int} {t : Int} : ∀ {n : Nat}, (∀ i, i < n → f i = g i) → cge f t n = cge g t n
 | 0, _ => rfl
 | n + 1, h => by rw [cge, cge, JN (fun i hi => h i (by omega)), h n (by omega)]
theorem Zhk {f : Nat → Int} {t : Int} {i : Nat} : ∀ {n : Nat}, (∀ j, i ≤ j → j < n → t ≤ f j) → n - i ≤ cge f t n
 | 0, _ => by omega
 | n + 1, h => by
  have := Zhk (n := n) (fun j h1 h2 => h j h1 (by omega))
  rw [cge]
  by_cases hi : i ≤ n
  ·rw [if_pos (h n hi (by omega))]; omega
  ·omega
theorem Zhl {f : Nat → Int} {t : Int} {i : Nat} : ∀ {n : Nat}, i < n → (∀ j, j ≤ i → ¬ t ≤ f j) → cge f t n + i + 1 ≤ n
 | 0, hi, _ => by omega
 | n + 1, hi, h => by
  rw [cge]
  rcases (by omega : i < n ∨ i = n) with h1 | rfl
  ·have := Zhl h1 h; split <;> omega
  ·rw [if_neg (h i ν)]
   have : cge f t i = 0 := by
    have : ∀ m, m ≤ i → cge f t m = 0 := fun m => by
     induction m with
     | zero => intro _; rfl
     | succ m ih => intro hm; rw [cge, ih (by omega), if_neg (h m (by omega))]
    exact this i ν
   omega
theorem SrtN.ge {f : Nat → Int} {n i : Nat} (h : SrtN f n) (hi : i < n) (t : Int) : t ≤ f i ↔ n - i ≤ cge f t n := by
 constructor
 ·intro ht
  refine Zhk fun j h1 h2 => ?_
  rcases (by omega : i = j ∨ i < j) with rfl | h3
  ·exact ht
  ·exact Int.le_trans ht (h i j h3 h2)
 ·intro hc
  refine Decidable.byContradiction fun hn => ?_
  have := Zhl hi (f := f) (t := t) (fun j hj => by
   rcases (by omega : j = i ∨ j < i) with rfl | h3
   ·exact hn
   ·have := h j i h3 hi; omega)
  omega
theorem SrtN.unique {f g : Nat → Int} {n : Nat} (hf : SrtN f n) (hg : SrtN g n) (h : ∀ t, cge f t n = cge g t n) {i : Nat} (hi : i < n) : f i = g i := by
 have h1 : f i ≤ g i := by rw [hg.ge hi, ← h, ← hf.ge hi]; exact Int.le_refl _
 have h2 : g i ≤ f i := by rw [hf.ge hi, h, ← hg.ge hi]; exact Int.le_refl _
 omega
def updN (f : Nat → Int) (p : Nat) (x : Int) : Nat → Int := fun i => if i = p then x else f i
theorem Zd1 (f : Nat → Int) (x t : Int) {p : Nat} : ∀ {n : Nat}, p < n → cge (updN f p x) t n + (if t ≤ f p then 1 else 0) = cge f t n + (if t ≤ x then 1 else 0)
 | 0, h => by omega
 | n + 1, h => by
  rw [cge, cge]
  rcases (by omega : p < n ∨ p = n) with h1 | rfl
  ·have := Zd1 f x t h1
   have e : updN f p x n = f n := by unfold updN; rw [if_neg (by omega)]
   rw [e]; omega
  ·have e : updN f p x p = x := by unfold updN; rw [if_pos rfl]
   have e2 : cge (updN f p x) t p = cge f t p := JN fun i hi => by unfold updN; rw [if_neg (by omega)]
   rw [e, e2]; omega
def exch (f : Nat → Int) (p q : Nat) : Nat → Int := updN (updN f p (min (f p) (f q))) q (max (f p) (f q))
theorem Zb6 (f : Nat → Int) {p q : Nat} (hne : p ≠ q) (i : Nat) : exch f p q i = if i = p then min (f p) (f q) else if i = q then max (f p) (f q) else f i := by
 unfold exch updN
 by_cases h1 : i = q
 ·subst h1; rw [if_pos rfl, if_neg (Ne.symm hne), if_pos rfl]
 ·rw [if_neg h1, if_neg h1]
theorem Zfj (f : Nat → Int) (t : Int) {p q n : Nat} (hp : p < n) (hq : q < n) (hne : p ≠ q) : cge (exch f p q) t n = cge f t n := by
 have h1 := Zd1 (updN f p (min (f p) (f q))) (max (f p) (f q)) t hq
 have h2 := Zd1 f (min (f p) (f q)) t hp
 have e : updN f p (min (f p) (f q)) q = f q := by unfold updN; rw [if_neg (Ne.symm hne)]
 rw [e] at h1
 unfold exch
 rcases Int.le_total (f p) (f q) with h | h
 ·rw [Int.min_eq_left h, Int.max_eq_right h] at *; omega
 ·rw [Int.min_eq_right h, Int.max_eq_left h] at *; omega
def lo_ (b p : Nat) : Nat := if bit b p = false then p else p - 2 ^ b
theorem Zfk {b p : Nat} (h : bit b p = true) : 2 ^ b ≤ p := by
 unfold bit at h
 have : p / 2 ^ b % 2 = 1 := by simpa using h
 rcases Nat.lt_or_ge p (2 ^ b) with h1 | h1
 ·rw [Nat.div_eq_of_lt h1] at this; omega
 ·exact h1
theorem ZdN {b p : Nat} : bit b (p + 2 ^ b) = !bit b p := by
 unfold bit
 rw [Nat.add_div_right _ (Nat.two_pow_pos b)]
 have : p / 2 ^ b % 2 = 0 ∨ p / 2 ^ b % 2 = 1 := by omega
 rcases this with h | h
 ·rw [h, show (p / 2 ^ b).succ % 2 = 1 by omega]; rfl
 ·rw [h, show (p / 2 ^ b).succ % 2 = 0 by omega]; rfl
theorem ZiV {b p : Nat} (h : bit b p = true) : bit b (p - 2 ^ b) = false := by
 have h1 := Zfk h
 have := ZdN (b := b) (p := p - 2 ^ b)
 rw [Nat.sub_add_cancel h1, h] at this
 cases e : bit b (p - 2 ^ b)
 ·rfl
 ·rw [e] at this; cases this
theorem Zi7 {b s p : Nat} (hb : b < s) (h : bit b p = false) : bit s (p + 2 ^ b) = bit s p := by
 have hp : 0 < 2 ^ b := Nat.two_pow_pos b
 have h0 : p / 2 ^ b % 2 = 0 := Zdr.1 h
 have e : 2 ^ s = 2 ^ b * 2 * 2 ^ (s - (b + 1)) := by rw [← Nat.pow_succ, ← Nat.pow_add]; congr 1; omega
 unfold bit
 rw [e, ← Nat.div_div_eq_div_mul, ← Nat.div_div_eq_div_mul, ← Nat.div_div_eq_div_mul, ← Nat.div_div_eq_div_mul, Nat.add_div_right _ hp, show (p / 2 ^ b).succ / 2 = p / 2 ^ b / 2 by omega]
theorem Zfl {b K p : Nat} (hb : b < K) (hp : p < 2 ^ K) (h : bit b p = false) : p + 2 ^ b < 2 ^ K := by
 have h0 : p / 2 ^ b % 2 = 0 := Zdr.1 h
 have e : 2 ^ K = 2 ^ b * (2 * 2 ^ (K - (b + 1))) := by rw [← Nat.mul_assoc, ← Nat.pow_succ, ← Nat.pow_add]; congr 1; omega
 have hpb : 0 < 2 ^ b := Nat.two_pow_pos b
 rw [e] at hp ⊢
 have h1 : p / 2 ^ b < 2 * 2 ^ (K - (b + 1)) := Nat.div_lt_of_lt_mul hp
 have h2 : (p + 2 ^ b) / 2 ^ b < 2 * 2 ^ (K - (b + 1)) := by
  rw [Nat.add_div_right _ hpb]; omega
 rw [Nat.mul_comm]
 exact (Nat.div_lt_iff_lt_mul hpb).1 h2
def stp (f : Nat → Int) (s b m : Nat) : Nat → Int := fun p => if lo_ b p < m then hcl f s b p else f p
theorem Zfm (f : Nat → Int) (s b : Nat) : stp f s b 0 = f := by
 funext p; unfold stp; rw [if_neg (Nat.not_lt_zero _)]
theorem Zk3 (b p : Nat) : lo_ b p ≤ p := by
 unfold lo_; split
 ·exact Nat.le_refl _
 ·exact Nat.sub_le _ _
theorem Zgg {b i : Nat} (h : bit b i = false) : lo_ b i = i := by unfold lo_; rw [if_pos h]
theorem Ziu {b i : Nat} (h : bit b i = false) : lo_ b (i + 2 ^ b) = i := by
 have e : bit b (i + 2 ^ b) = true := by rw [ZdN, h]; rfl
 unfold lo_; rw [if_neg (by rw [e]; simp)]; exact Nat.add_sub_cancel _ _
theorem Zgh (f : Nat → Int) (s b : Nat) {n p : Nat} (hp : p < n) : stp f s b n p = hcl f s b p := by
 unfold stp; rw [if_pos (Nat.lt_of_le_of_lt (Zk3 b p) hp)]
theorem ZjG (b p : Nat) : bit b (lo_ b p) = false := by
 unfold lo_
 cases h : bit b p
 ·rw [if_pos rfl]; exact h
 ·rw [if_neg (by simp)]; exact ZiV h
theorem Zfn (f : Nat → Int) (s b : Nat) {i : Nat} (h : bit b i = true) : stp f s b (i + 1) = stp f s b i := by
 funext p
 have : lo_ b p ≠ i := fun e => by have := ZjG b p; rw [e, h] at this; cases this
 unfold stp
 by_cases h1 : lo_ b p < i
 ·rw [if_pos h1, if_pos (by omega)]
 ·rw [if_neg h1, if_neg (by omega)]
theorem ZjH (f : Nat → Int) (s b : Nat) {i : Nat} (h : bit b i = false) : stp f s b i i = f i ∧ stp f s b i (i + 2 ^ b) = f (i + 2 ^ b) := by
 constructor
 ·unfold stp; rw [Zgg h, if_neg (Nat.lt_irrefl _)]
 ·unfold stp; rw [Ziu h, if_neg (Nat.lt_irrefl _)]
theorem Zhm (f : Nat → Int) {s b i : Nat} (hb : b < s) (h : bit b i = false) : stp f s b (i + 1) = if bit s i = false then exch (stp f s b i) i (i + 2 ^ b) else exch (stp f s b i) (i + 2 ^ b) i := by
 have hp : 0 < 2 ^ b := Nat.two_pow_pos b
 have e : bit b (i + 2 ^ b) = true := by rw [ZdN, h]; rfl
 have es := Zi7 hb h
 obtain ⟨l1, l2⟩ := ZjH f s b h
 have H : ∀ p, stp f s b (i + 1) p = if p = i ∨ p = i + 2 ^ b then hcl f s b p else stp f s b i p := fun p => by
  by_cases h1 : p = i
  ·subst h1; rw [if_pos (.inl rfl)]; unfold stp; rw [Zgg h, if_pos (Nat.lt_succ_self _)]
  ·by_cases h2 : p = i + 2 ^ b
   ·rw [if_pos (.inr h2)]; subst h2; unfold stp; rw [Ziu h, if_pos (Nat.lt_succ_self _)]
   ·rw [if_neg (by omega)]
    have : lo_ b p ≠ i := fun e1 => by
     unfold lo_ at e1
     split at e1
     ·exact h1 e1
     ·rename_i h3
      have := Zfk (b := b) (p := p) (by simpa using h3)
      omega
    unfold stp
    by_cases h3 : lo_ b p < i
    ·rw [if_pos h3, if_pos (by omega)]
    ·rw [if_neg h3, if_neg (by omega)]
 have h0 : hcl f s b i = if bit s i = false then min (f i) (f (i + 2 ^ b)) else max (f i) (f (i + 2 ^ b)) := by unfold hcl; rw [if_pos h]
 have h1 : hcl f s b (i + 2 ^ b) = if bit s i = false then max (f i) (f (i + 2 ^ b)) else min (f i) (f (i + 2 ^ b)) := by unfold hcl; rw [if_neg (by rw [e]; simp), es, Nat.add_sub_cancel]
 funext p
 rw [H]
 by_cases hs : bit s i = false
 ·rw [if_pos hs] at h0 h1 ⊢
  rw [Zb6 _ (by omega), l1, l2]
  by_cases e1 : p = i
  ·rw [if_pos (.inl e1), if_pos e1, e1, h0]
  ·by_cases e2 : p = i + 2 ^ b
   ·rw [if_pos (.inr e2), if_neg e1, if_pos e2, e2, h1]
   ·rw [if_neg (by omega), if_neg e1, if_neg e2]
 ·rw [if_neg hs] at h0 h1 ⊢
  rw [Zb6 _ (by omega), l1, l2]
  by_cases e1 : p = i
  ·rw [if_pos (.inl e1), if_neg (by omega), if_pos e1, e1, h0, Int.max_comm]
  ·by_cases e2 : p = i + 2 ^ b
   ·rw [if_pos (.inr e2), if_pos e2, e2, h1, Int.min_comm]
   ·rw [if_neg (by omega), if_neg e2, if_neg e1]
theorem Zgi (f : Nat → Int) (t : Int) {s b K : Nat} (hb : b < s) (hK : b < K) : ∀ m, m ≤ 2 ^ K → cge (stp f s b m) t (2 ^ K) = cge f t (2 ^ K)
 | 0, _ => by rw [Zfm]
 | i + 1, hm => by
  have ih := Zgi f t hb hK i (by omega)
  have hp : 0 < 2 ^ b := Nat.two_pow_pos b
  cases h : bit b i
  ·have := Zfl hK (by omega) h
   rw [Zhm f hb h]
   split
   ·rw [Zfj _ _ (by omega) this (by omega), ih]
   ·rw [Zfj _ _ this (by omega) (by omega), ih]
  ·rw [Zfn f s b h, ih]
theorem ZiW (f : Nat → Int) (t : Int) {s b K : Nat} (hb : b < s) (hK : b < K) : cge (hcl f s b) t (2 ^ K) = cge f t (2 ^ K) := by
 rw [← Zgi f t hb hK (2 ^ K) ν]
 exact JN fun i hi => (Zgh f s b hi).symm
theorem Inv.zero (f : Nat → Int) : Inv f 0 0 :=
 ⟨fun t q i j k l h1 h2 h3 h4 => by simp at h4; omega, fun t i j h1 h2 => by simp at h1 h2; omega⟩
theorem Inv.next {f : Nat → Int} {s : Nat} (h : Inv f s 0) : Inv f (s + 1) (s + 1) := by
 have hp : 0 < 2 ^ s := Nat.two_pow_pos s
 have hpp : 2 ^ (s + 1) = 2 * 2 ^ s := by rw [Nat.pow_succ, Nat.mul_comm]
 refine ⟨fun t q => ?_, fun t i j h1 h2 => by omega⟩
 have blk : ∀ c i, i < 2 ^ s → (c * 2 ^ s + i) / 2 ^ s = c := fun c i hi => by
  rw [Nat.mul_comm, Nat.mul_add_div hp, Nat.div_eq_of_lt hi, Nat.add_zero]
 have U : ∀ c i j, i < j → j < 2 ^ s → thr f s t (c * 2 ^ s + i) = true → thr f s t (c * 2 ^ s + j) = true := fun c i j hij hj hv =>
  h.up t _ _ (by rw [blk c i (by omega), blk c j hj]) (by simp; omega) hv
 have b0 : ∀ i, i < 2 ^ s → bit s (q * 2 ^ (s + 1) + i) = false := fun i hi => by
  rw [Zdr, show q * 2 ^ (s + 1) + i = (q * 2) * 2 ^ s + i by rw [hpp, Nat.mul_assoc], blk _ i hi]; omega
 have b1 : ∀ i, i < 2 ^ s → bit s (q * 2 ^ (s + 1) + 2 ^ s + i) = true := fun i hi => by
  unfold bit
  rw [show q * 2 ^ (s + 1) + 2 ^ s + i = (q * 2 + 1) * 2 ^ s + i by rw [hpp, Nat.add_mul, Nat.mul_assoc, Nat.one_mul], blk _ i hi]; simp
 have base : Bt (fun i => decide (t ≤ f i)) (q * 2 ^ (s + 1)) (2 * 2 ^ s) := by
  refine Up.bt (fun i j hij hj hv => ?_) (fun i j hij hj hv => ?_)
  ·have := U (q * 2) i j hij hj
   rw [show q * 2 * 2 ^ s = q * 2 ^ (s + 1) by rw [hpp, Nat.mul_assoc]] at this
   unfold thr at this
   rw [b0 i (by omega), b0 j hj, Bool.xor_false, Bool.xor_false] at this
   exact this hv
  ·have := U (q * 2 + 1) i j hij hj
   rw [show (q * 2 + 1) * 2 ^ s = q * 2 ^ (s + 1) + 2 ^ s by rw [hpp, Nat.add_mul, Nat.mul_assoc, Nat.one_mul]] at this
   unfold thr at this
   rw [b1 i (by omega), b1 j hj] at this
   cases e : decide (t ≤ f (q * 2 ^ (s + 1) + 2 ^ s + i))
   ·rw [e] at this
    have := this rfl
    simp at hv this
    omega
   ·rfl
 have hc : ∀ i j, i < 2 ^ (s + 1) → j < 2 ^ (s + 1) → bit (s + 1) (q * 2 ^ (s + 1) + i) = bit (s + 1) (q * 2 ^ (s + 1) + j) := fun i j hi hj => Zec ν hi hj
 rw [hpp] at hc ⊢
 rw [hpp] at base
 cases hb : bit (s + 1) (q * (2 * 2 ^ s))
 ·refine base.congr fun i hi => ?_
  have : bit (s + 1) (q * (2 * 2 ^ s) + i) = bit (s + 1) (q * (2 * 2 ^ s)) := hc i 0 hi (by omega)
  rw [hb] at this
  unfold thr; rw [this, Bool.xor_false]
 ·refine base.not.congr fun i hi => ?_
  have : bit (s + 1) (q * (2 * 2 ^ s) + i) = bit (s + 1) (q * (2 * 2 ^ s)) := hc i 0 hi (by omega)
  rw [hb] at this
  unfold thr; rw [this, Bool.xor_true]
theorem Inv.sorted {f : Nat → Int} {K : Nat} (h : Inv f K 0) : SrtN f (2 ^ K) := by
 intro i j hij hj
 have e : ∀ i, i < 2 ^ K → bit K i = false := fun i hi => by rw [Zdr, Nat.div_eq_of_lt hi]
 have := h.up (f i) i j (by rw [Nat.div_eq_of_lt hj, Nat.div_eq_of_lt (by omega)]) (by simp; omega)
 unfold thr at this
 rw [e i (by omega), e j hj, Bool.xor_false, Bool.xor_false] at this
 simpa using this
structure IsSort (f : Nat → Int) (m : Nat) (h : Nat → Int) : Prop where
 srt : SrtN h m
 cnt : ∀ t, cge h t m = cge f t m
theorem IsSort.unique {f g h k : Nat → Int} {m : Nat} (a : IsSort f m h) (b : IsSort g m k) (e : ∀ t, cge f t m = cge g t m) {i : Nat} (hi : i < m) : h i = k i :=
 a.srt.unique b.srt (fun t => by rw [a.cnt, b.cnt, e]) hi
theorem Zbp (f : Nat → Int) (t : Int) (m : Nat) : ∀ k, cge f t (m + k) = cge f t m + cge (fun i => f (m + i)) t k
 | 0 => rfl
 | k + 1 => by rw [← Nat.add_assoc, cge, Zbp f t m k, cge]; omega
theorem Zi8 {f : Nat → Int} {t : Int} {m : Nat} (h : ∀ i, i < m → f i < t) : cge f t m = 0 := by
 induction m with
 | zero => rfl
 | succ m ih => rw [cge, ih (fun i hi => h i (by omega)), if_neg (by have := h m (by omega); omega)]
theorem IsSort.le {f h : Nat → Int} {m : Nat} {M : Int} (a : IsSort f m h) (hf : ∀ i, i < m → f i ≤ M) {i : Nat} (hi : i < m) : h i ≤ M := by
 refine Decidable.byContradiction fun hn => ?_
 have h1 := (a.srt.ge hi (M + 1)).1 (by omega)
 rw [a.cnt, Zi8 (fun i hi => by have := hf i hi; omega)] at h1
 omega
theorem IsSort.pad {f g h : Nat → Int} {m k : Nat} {M : Int} (a : IsSort f m h) (hf : ∀ i, i < m → f i ≤ M) (hp : ∀ i, i < k → f (m + i) = M) (hg : SrtN g (m + k)) (hc : ∀ t, cge g t (m + k) = cge f t (m + k)) {i : Nat} (hi : i < m) : g i = h i := by
 have hs : SrtN (fun i => if i < m then h i else M) (m + k) := fun i j h1 h2 => by
  show (if i < m then h i else M) ≤ (if j < m then h j else M)
  by_cases e1 : j < m
  ·rw [if_pos e1, if_pos (by omega)]; exact a.srt i j h1 e1
  ·rw [if_neg e1]
   by_cases e2 : i < m
   ·rw [if_pos e2]; exact a.le hf e2
   ·rw [if_neg e2]; exact Int.le_refl _
 have e := hg.unique hs (fun t => by
  rw [hc, Zbp, Zbp, ← a.cnt]
  congr 1
  ·exact JN fun i hi => by rw [if_pos hi]
  ·exact JN fun i hi => by rw [hp i hi, if_neg (by omega)]) (i := i) (by omega)
 simpa [hi] using e
def insN (h : Nat → Int) (k : Nat) (x : Int) : Nat → Int := fun i => if i < k then h i else if i = k then x else h (i - 1)
theorem Zgj (h : Nat → Int) (x t : Int) {k : Nat} : ∀ {m : Nat}, k ≤ m → cge (insN h k x) t (m + 1) = cge h t m + (if t ≤ x then 1 else 0)
 | 0, hk => by
  obtain rfl : k = 0 := by omega
  simp [cge, insN]
 | m + 1, hk => by
  rw [cge]
  rcases (by omega : k ≤ m ∨ k = m + 1) with h1 | rfl
  ·rw [Zgj h x t h1]
   have : insN h k x (m + 1) = h m := by unfold insN; rw [if_neg (by omega), if_neg (by omega)]; rfl
   rw [this, cge]; omega
  ·have e1 : cge (insN h (m + 1) x) t (m + 1) = cge h t (m + 1) := JN fun i hi => by unfold insN; rw [if_pos hi]
   have e2 : insN h (m + 1) x (m + 1) = x := by unfold insN; rw [if_neg (by omega), if_pos rfl]
   rw [e1, e2]
theorem IsSort.ins {f h : Nat → Int} {m k : Nat} (a : IsSort f m h) (hk : k ≤ m) (h1 : ∀ i, i < k → h i ≤ f m) (h2 : k < m → f m ≤ h k) : IsSort f (m + 1) (insN h k (f m)) := by
 refine ⟨fun i j hij hj => ?_, fun t => by rw [Zgj h _ t hk, a.cnt, cge]⟩
 unfold insN
 by_cases e1 : j < k
 ·rw [if_pos (by omega), if_pos e1]; exact a.srt i j hij (by omega)
 ·rw [if_neg e1]
  by_cases e2 : j = k
  ·rw [if_pos e2, if_pos (by omega)]; exact h1 i (by omega)
  ·rw [if_neg e2]
   have hkj : f m ≤ h (j - 1) := by
    rcases (by omega : k = j - 1 ∨ k < j - 1) with e | e
    ·rw [← e]; exact h2 (by omega)
    ·exact Int.le_trans (h2 (by omega)) (a.srt k (j - 1) e (by omega))
   by_cases e3 : i < k
   ·rw [if_pos e3]; exact Int.le_trans (h1 i e3) hkj
   ·rw [if_neg e3]
    by_cases e4 : i = k
    ·rw [if_pos e4]; exact hkj
    ·rw [if_neg e4]; exact a.srt (i - 1) (j - 1) (by omega) (by omega)
theorem IsSort.nil (f h : Nat → Int) : IsSort f 0 h := ⟨fun i j _ hj => absurd hj (Nat.not_lt_zero _), fun _ => rfl⟩
theorem ZdO (f : Nat → Int) (t : Int) : ∀ n, cge (fun i => f (n - 1 - i)) t n = cge f t n
 | 0 => rfl
 | n + 1 => by
  have h := Zbp (fun i => f (n + 1 - 1 - i)) t 1 n
  rw [Nat.add_comm 1 n] at h
  rw [h, cge, cge, cge, ← ZdO f t n]
  have e : cge (fun i => f (n + 1 - 1 - (1 + i))) t n = cge (fun i => f (n - 1 - i)) t n := JN fun i hi => by
   show f _ = f _; congr 1; omega
  rw [e]; simp; omega
end Go.Proofs.YtjdiilkljgljkaaGreatDoor
namespace Go.Proofs.YtjdiilkljgljkaaGreatDoor
set_option linter.unusedVariables false
set_option linter.unusedSimpArgs false
open Go.RowKit Wd
set_option maxRecDepth 100000 in
theorem ZgN : (Lib.len8tab.size : Int) = 256 := by
 have : Lib.len8tab.size = 256 := by decide
 omega
theorem Zgk (y : Int) (h : y.toNat < Lib.len8tab.size) : ((Lib.len8tab[y.toNat]'h).toNat : Int) = Lib.len8 y := by
 unfold Lib.len8
 rw [getElem?_pos Lib.len8tab y.toNat h]
 rfl
theorem ZjI (k a b : Nat) (hk : k ≤ 56) (ha : a ≤ 8) (hb : b = k + a) : wrap64 ((k : Int) + wrap64 (a : Int)) = (b : Int) := by
 unfold wrap64; omega
theorem ZiX (a : Nat) (ha : a ≤ 8) : wrap64 (wrap64 (a : Int)) = (a : Int) := by
 unfold wrap64; omega
theorem ZiY (a : Nat) (ha : a ≤ 8) : wrap64 (a : Int) = (a : Int) := by
 unfold wrap64; omega
set_option maxRecDepth 100000 in
theorem ZfY (x : Int) (w : World) (h0 : 0 ≤ x) (h1 : x ≤ 4095) :
    Calls Tryz.prog 166 #[.int .u64 x] w fun e w' => e = .returned (.int .i64 (Lib.bitLen x.toNat)) ∧ w = w' := by
  have k1 : ¬ (4294967296 ≤ x) := by omega
  have k2 : ¬ (65536 ≤ x) := by omega
  go_enter Tryz.func166, Tryz.ntmps166
  go_wp2
  all_goals first
    | (go_ret; refine ⟨congrArg Ending.returned (congrArg (Value.int IntKind.i64) ?_), rfl⟩)
    | (exfalso
       have hs := ZgN
       omega)
  all_goals first
    | (rw [Zgk (x / 256) _, Lib.len8_of (x / 256) (by omega) (by omega)]
       have e : (x / 256).toNat = x.toNat / 256 := by omega
       have l := Lib.bitLen_le8' (x / 256) (by omega) (by omega)
       have s := Lib.bitLen_shift8 x.toNat (by omega) (by omega)
       rw [e] at l ⊢
       exact ZjI 8 _ _ (by decide) l s)
    | (rw [Zgk x _, Lib.len8_of x (by omega) (by omega)]
       have l := Lib.bitLen_le8' x (by omega) (by omega)
       first | exact ZiX _ l | exact ZiY _ l)
theorem Zhn (x : Int) (w : World) (h0 : 0 ≤ x) (h1 : x ≤ 4095) :
  Calls Tryz.prog 154 #[.int .u64 x] w fun e w' => e = .returned (.int .i64 (Lib.bitLen x.toNat)) ∧ w = w' := by
 have H0 := η h0; have H1 := η h1; clear h0 h1
 go_enter Tryz.func154, Tryz.ntmps154
 go_wp2_with fail
 refine (ZfY x _ H0.out H1.out).mono ?_
 rintro e w' ⟨rfl, rfl⟩
 go_wp2_with fail
 go_ret
 exact ⟨rfl, rfl⟩
theorem Zed : ∀ (k x : Nat), x < 2 ^ k → k ≤ 63 → x < 2 ^ Lib.bitLen x
 | 0, x, h, _ => by
  obtain rfl : x = 0 := by simpa using h
  exact Nat.two_pow_pos _
 | k + 1, x, h, hk => by
  by_cases h0 : x = 0
  ·subst h0; exact Nat.two_pow_pos _
  ·have h64 : x < 2 ^ 64 := Nat.lt_of_lt_of_le h (Nat.pow_le_pow_right (by decide) (by omega))
   rw [Lib.bitLen_half x h0 h64]
   rw [Nat.pow_succ] at h
   have := Zed k (x / 2) (by omega) (by omega)
   rw [Nat.add_comm, Nat.pow_succ]; omega
theorem Zfo (n z : Nat) (h0 : 1 ≤ n) (h1 : n ≤ 4096) (hz : z = 2 ^ Lib.bitLen (n - 1)) (w : World) :
  Calls Tryz.prog 139 #[.int .i64 (n : Int)] w fun e w' => e = .returned (.int .i64 (z : Int)) ∧ w = w' := by
 have HZ := η hz; clear hz
 have HL2 := η (Lib.bitLen_le (n - 1) 12 (by decide) (by omega))
 have e1 : IntKind.i64.wrap ((n : Int) - 1) = ((n - 1 : Nat) : Int) := by rw [IntKind.wrap_i64]; omega
 have e2 : IntKind.u64.wrap (((n - 1 : Nat) : Int)) = ((n - 1 : Nat) : Int) := by rw [IntKind.wrap_u64]; omega
 have H0 := η h0; have H1 := η h1
 go_enter Tryz.func139, Tryz.ntmps139
 go_wp2_with fail
 refine (Zhn ((n - 1 : Nat) : Int) _ (by omega) (by omega)).mono ?_
 rintro e w' ⟨rfl, rfl⟩
 rw [show (((n - 1 : Nat) : Int)).toNat = n - 1 from rfl]
 have hz := HZ.out
 generalize Lib.bitLen (n - 1) = K at *
 have HK := η (show K ≤ 12 from HL2.out)
 clear HL2 e1 e2
 have e3 : wrap64 (2 ^ min K 64) = (z : Int) := by
  rw [hz]
  have h2 : 2 ^ K ≤ 2 ^ 12 := Nat.pow_le_pow_right (by decide) HK.out
  rw [Nat.min_eq_left (by have := HK.out; omega), show (2 : Int) ^ K = ((2 ^ K : Nat) : Int) by simp]
  have h4 : 2 ^ K ≤ 4096 := h2
  generalize 2 ^ K = z at *
  unfold wrap64; omega
 clear hz HZ
 go_wp2_with fail
 go_ret
 exact ⟨congrArg (fun q => Ending.returned (Value.int IntKind.i64 q)) e3, rfl⟩
end Go.Proofs.YtjdiilkljgljkaaGreatDoor
