/- Part c of the lemmas of TopBatch: contracts of functions of the program, and plain laws of numbers, bytes and memory. -/
import Derived.Test.YtjdiilkljgljkaaGreatDoorMb
import Derived.OrdersIn
import Derived.ControlIn
import Derived.TacticsIn
import Derived.RangeFuncCalls
import Derived.Scope
import Derived.Deep.RegionHeld3
import Derived.Lib.Hide
import Derived.Test.YtjdiilkljgljkaaGreatDoorMa
import Derived.WalkSpells
import Derived.Deep.AppendLies
set_option maxHeartbeats 4000000
namespace Go.Proofs.YtjdiilkljgljkaaGreatDoor
set_option linter.unusedVariables false
set_option linter.unusedSimpArgs false
open Go.RowKit Wd
def codB (d : Nat → Bool) (v : Nat → Int) (i : Nat) : Int := if d i then v i + 128 else v i
def codL (d : Nat → Bool) (v : Nat → Int) : Nat → List Int
 | 0 => []
 | k + 1 => codL d v k ++ [codB d v k]
theorem Jn (d : Nat → Bool) (v : Nat → Int) : ∀ k, (codL d v k).length = k
 | 0 => rfl
 | k + 1 => by rw [codL, List.length_append, Jn d v k]; rfl
def ptsN (op p : Int) : List Int := if op = 4 then [] else [p % 256, p / 256]
def hdrB (op : Int) (n : Nat) (d : Nat → Bool) (v : Nat → Int) (p : Int) : List Int := op :: (n : Int) :: codL d v n ++ ptsN op p
theorem Zh7 {x : Int} (h0 : 0 ≤ x) (h1 : x ≤ 64) : bits .or .u8 x 128 = x + 128 := by
 have h : ∀ m : Fin 65, bits .or .u8 ((m : Nat) : Int) 128 = ((m : Nat) : Int) + 128 := by decide
 have := h ⟨x.toNat, by omega⟩
 rw [show ((x.toNat : Nat) : Int) = x by omega] at this
 exact this
theorem Jq {x : Int} (h0 : 0 ≤ x) (h1 : x ≤ 255) : IntKind.u8.wrap x = x := by rw [IntKind.wrap_u8]; omega
theorem OwB.snoc2 {w : World} {base : Nat} {v : Value} {l : List Int} {n : Nat} {x y : Int} (h : w.ownsRow base 5 1 v n (Jz l ++ [.int .u8 x, .int .u8 y])) (hn : n = l.length + 2) : OwB w base v (l ++ [x, y]) := by
 unfold OwB; rw [Zd8, List.length_append]; subst hn; exact h
theorem Jo {w : World} {b : Nat} (hb : b = w.heap.size) (u : Value) (t : TypeId) : ∀ j x, [u][j]? = some x → (w.alloc (.cells #[u] t)).cell? ((⟨b, 0, none⟩ : Addr).add j) = some x := by
 subst hb; exact Jt w u t
theorem JE {w : World} {b : Nat} (hb : b = w.heap.size) (u v : Value) (t : TypeId) : ∀ j x, [u, v][j]? = some x → (w.alloc (.cells #[u, v] t)).cell? ((⟨b, 0, none⟩ : Addr).add j) = some x := by
 subst hb
 intro j x h
 have hb : Bx (w.alloc (.cells #[u, v] t)) w.heap.size #[u, v] t := Bx.new _ _ _
 match j, h with
 | 0, h => exact hb.cell 0 (v := x) (by simpa using h)
 | 1, h => exact hb.cell 1 (v := x) (by simpa using h)
set_option maxRecDepth 100000 in
theorem ZbE (op p : Int) (hop : OpP op p) (A : Option Addr) (n c : Nat) (d : Nat → Bool) (v : Nat → Int) (Q : Nat → Option Addr × Nat × Nat) (ho : OkK n v) (hq : ∀ k, k < n → (Q k).2.1 = 0) (w : World) (hr : Rgs w A n c d v Q) :
  Calls Tryz.prog 88 #[.agg #[.int .i64 op, .int .i64 0, .slice A n c, .int .i64 p]] w fun e w' => (∃ v', e = .returned (.tuple #[v', .int .i64 0]) ∧ OwB w' w.heap.size v' (hdrB op n d v p)) ∧ Below w.heap.size w w' := by
 obtain ⟨i0, hi0, hz0, hz1, hz2⟩ := info_parts Zbh
 have HR := η hr; have HO := η ho; have HQ := η hq
 have HOP := hop
 have hcp := hr.cap
 have hmx := hr.max
 have h1 := ho.pos
 have h2 := ho.le
 clear hr ho hq
 unfold maxLen at hmx
 obtain ⟨b, off, rfl, hbl, hc⟩ := HR.out.at_ (by omega)
 have HC := η hc; have HBL := η hbl; clear hc hbl
 rcases hop with ⟨h, h'⟩ | ⟨h, hp1, hp2⟩
 ·subst h; subst h'
  go_enter Tryz.func88, Tryz.ntmps88
  go_wp2_with fail
  have HX := η (Bx.new w #[.int .i64 4, .int .i64 0, .slice (some ⟨b, off, none⟩) n c, .int .i64 0] 28)
  have HB1 := η (show Below w.heap.size w (w.alloc (.cells #[.int .i64 4, .int .i64 0, .slice (some ⟨b, off, none⟩) n c, .int .i64 0] 28)) from J8 J0)
  generalize w.alloc (.cells #[.int .i64 4, .int .i64 0, .slice (some ⟨b, off, none⟩) n c, .int .i64 0] 28) = w1 at *
  have c0 := HX.out.cell 0 (v := .int .i64 4) rfl
  have c1 := HX.out.cell 1 (v := .int .i64 0) rfl
  have c2 := HX.out.cell 2 (v := .slice (some ⟨b, off, none⟩) n c) rfl
  have c3 := HX.out.cell 3 (v := .int .i64 0) rfl
  go_wp2_with fail
  clear c0 c1 c2 c3
  refine (Zan 4 0 HOP (some ⟨b, off, none⟩) n c d v Q HO.out HQ.out _ (HR.out.below HB1.out ν)).mono ?_
  rintro e w2 ⟨rfl, B⟩
  have HX2 := η (HX.out.below B ν); have HB2 := η (J6 HB1.out B)
  clear B HX HB1
  have c0 := HX2.out.cell 0 (v := .int .i64 4) rfl
  have c1 := HX2.out.cell 1 (v := .int .i64 0) rfl
  have c2 := HX2.out.cell 2 (v := .slice (some ⟨b, off, none⟩) n c) rfl
  have c3 := HX2.out.cell 3 (v := .int .i64 0) rfl
  have hlt2 := HX2.out.lt
  have hsz := HB2.out.size
  have en := Jq (x := (n : Int)) (by omega) (by omega)
  have HO1 := η (show OwB (w2.alloc (.cells #[.int .u8 4] 5)) w.heap.size (.slice (some ⟨w2.heap.size, 0, none⟩) 1 1) [4] from ⟨rfl, .inr ⟨w2.heap.size, 1, #[.int .u8 4], rfl, HB2.out.size, Bx.new _ _ _, Nat.le_refl _, by decide, rfl, rfl⟩⟩)
  go_wp2_with (at_builtin; refine wpList_append_own _ rfl _ _ 24 rfl w.heap.size 5 i0 (.int .u8 0) 1 1 Tryz.underlying24 hi0 hz0 hz1 hz2 rfl (by decide) _ _ _ rfl (HO1.out.alloc _) ⟨w2.heap.size + 1, 0, none⟩ 1 1 [.int .u8 (n : Int)] rfl rfl ?c1 ?c2 ?c3 ?c4 ?c5 ?_)
  case c1 => exact Jo (by simp) _ _
  case c2 => simp [Value.oneCell']
  case c3 => skip; first | decide | (unfold maxLen; omega)
  case c4 => skip; first | decide | omega
  case c5 => first | (simp; done) | (simp; omega)
  intro v' w' hown2 hgrow _
  have HF3 := η ((((Fr.refl w.heap.size none w2).alloc hsz (.cells #[.int .u8 4] 5)).alloc (Nat.le_trans hsz (by simp)) (.cells #[.int .u8 (n : Int)] 5)).grown hgrow (HO1.out.alloc _) (Nat.le_trans hsz (by simp; omega)))
  have HO3 := η (show OwB w' w.heap.size v' (4 :: (n : Int) :: codL d v 0) from OwB.snoc (l := [4]) hown2 rfl)
  clear hown2 hgrow HO1 c0 c1 c2 c3 en hlt2 hsz
  have HX3 := η (HF3.out.keep _ _ _ (by decide) (by simp) HX2.out)
  have c0 := HX3.out.cell 0 (v := .int .i64 4) rfl
  have c1 := HX3.out.cell 1 (v := .int .i64 0) rfl
  have c2 := HX3.out.cell 2 (v := .slice (some ⟨b, off, none⟩) n c) rfl
  have c3 := HX3.out.cell 3 (v := .int .i64 0) rfl
  go_wp2_with fail
  clear c0 c1 c2 c3
  go_loopw [5, 41] (fun vr ir wr => ∃ k : Nat, k ≤ n ∧ ir = .int .i64 (k : Int) ∧ OwB wr w.heap.size vr (4 :: (n : Int) :: codL d v k) ∧ Fr w.heap.size none w2 wr) (fun _ i _ => n - (intOf i).toNat)
  case atStart => exact ⟨0, by omega, rfl, HO3.out, HF3.out⟩
  case round =>
   obtain ⟨k, hk, rfl, hown, hfr⟩ := hrel
   have HOW := η hown; have HFR := η hfr; clear hown hfr
   have HB := η (HB2.out.trans HFR.out.below)
   have HXR := η (HFR.out.keep _ _ _ (by decide) (by simp) HX2.out)
   by_cases hlt : k < n
   ·have p0 : wr.cell? ⟨b, off + k * 3, none⟩ = some (.bool (d k)) := (HB.out.cell (p := ⟨b, off + k * 3, none⟩) HBL.out).trans (HC.out k hlt).1
    have p1 : wr.cell? ⟨b, off + k * 3 + 1, none⟩ = some (.int .i64 (v k)) := (HB.out.cell (p := ⟨b, off + k * 3 + 1, none⟩) HBL.out).trans (HC.out k hlt).2.1
    have p2 : wr.cell? ⟨b, off + k * 3 + 2, none⟩ = some (.slice (Q k).1 (Q k).2.1 (Q k).2.2) := (HB.out.cell (p := ⟨b, off + k * 3 + 2, none⟩) HBL.out).trans (HC.out k hlt).2.2
    have hms := η (show n - (intOf (.int .i64 ((k : Int) + 1))).toNat < n - (intOf (.int .i64 (k : Int))).toNat from by simp [intOf]; omega)
    have HRG := η (HO.out.range hlt)
    have hsz := HB.out.size
    have e1 := Jq (x := v k) HRG.out.1 (by have := HRG.out.2.1; omega)
    have e2 := Zh7 HRG.out.1 HRG.out.2.1
    have HLN := η (show ((4 :: (n : Int) :: codL d v k)).length = k + 2 from by simp [Jn])
    cases hd : d k
    ·have HCB := η (show codB d v k = v k from by unfold codB; rw [hd]; rfl)
     rw [hd] at p0
     clear hd
     go_wp2_with (at_builtin; refine wpList_append_own _ rfl _ _ 24 rfl w.heap.size 5 i0 (.int .u8 0) 1 1 Tryz.underlying24 hi0 hz0 hz1 hz2 rfl (by decide) _ _ _ rfl ((HOW.out.alloc (.cells #[.bool false, .int .i64 (v k), .slice (Q k).1 (Q k).2.1 (Q k).2.2] 48)).alloc (.cells #[.int .u8 (v k)] 5)) ⟨wr.heap.size + 1, 0, none⟩ 1 1 [.int .u8 (v k)] rfl rfl ?c1 ?c2 ?c3 ?c4 ?c5 ?_)
     case c1 => exact Jo (by simp) _ _
     case c2 => simp [Value.oneCell']
     case c3 => have := HLN.out; first | decide | (unfold maxLen; omega)
     case c4 => have := HLN.out; first | decide | omega
     case c5 => (simp; omega)
     intro v' w' hown2 hgrow _
     have HF9 := η (((HFR.out.alloc hsz (.cells #[.bool false, .int .i64 (v k), .slice (Q k).1 (Q k).2.1 (Q k).2.2] 48)).alloc (Nat.le_trans hsz (by simp)) (.cells #[.int .u8 (v k)] 5)).grown hgrow ((HOW.out.alloc (.cells #[.bool false, .int .i64 (v k), .slice (Q k).1 (Q k).2.1 (Q k).2.2] 48)).alloc (.cells #[.int .u8 (v k)] 5)) (Nat.le_trans hsz (by simp; omega)))
     have HO9 := η (show OwB w' w.heap.size v' (4 :: (n : Int) :: codL d v (k + 1)) from by
      have h := OwB.snoc (l := (4 :: (n : Int) :: codL d v k)) hown2 rfl
      rw [codL, HCB.out]; exact h)
     clear hown2 hgrow
     go_wp2_with fail
     go_roundw
     case rel => exact ⟨k + 1, hlt, by go_num, HO9.out, HF9.out⟩
     case measure => exact hms.out
    ·have HCB := η (show codB d v k = v k + 128 from by unfold codB; rw [hd]; rfl)
     rw [hd] at p0
     clear hd
     go_wp2_with (at_builtin; refine wpList_append_own _ rfl _ _ 24 rfl w.heap.size 5 i0 (.int .u8 0) 1 1 Tryz.underlying24 hi0 hz0 hz1 hz2 rfl (by decide) _ _ _ rfl ((HOW.out.alloc (.cells #[.bool true, .int .i64 (v k), .slice (Q k).1 (Q k).2.1 (Q k).2.2] 48)).alloc (.cells #[.int .u8 (v k + 128)] 5)) ⟨wr.heap.size + 1, 0, none⟩ 1 1 [.int .u8 (v k + 128)] rfl rfl ?c1 ?c2 ?c3 ?c4 ?c5 ?_)
     case c1 => exact Jo (by simp) _ _
     case c2 => simp [Value.oneCell']
     case c3 => have := HLN.out; first | decide | (unfold maxLen; omega)
     case c4 => have := HLN.out; first | decide | omega
     case c5 => (simp; omega)
     intro v' w' hown2 hgrow _
     have HF9 := η (((HFR.out.alloc hsz (.cells #[.bool true, .int .i64 (v k), .slice (Q k).1 (Q k).2.1 (Q k).2.2] 48)).alloc (Nat.le_trans hsz (by simp)) (.cells #[.int .u8 (v k + 128)] 5)).grown hgrow ((HOW.out.alloc (.cells #[.bool true, .int .i64 (v k), .slice (Q k).1 (Q k).2.1 (Q k).2.2] 48)).alloc (.cells #[.int .u8 (v k + 128)] 5)) (Nat.le_trans hsz (by simp; omega)))
     have HO9 := η (show OwB w' w.heap.size v' (4 :: (n : Int) :: codL d v (k + 1)) from by
      have h := OwB.snoc (l := (4 :: (n : Int) :: codL d v k)) hown2 rfl
      rw [codL, HCB.out]; exact h)
     clear hown2 hgrow
     go_wp2_with fail
     go_roundw
     case rel => exact ⟨k + 1, hlt, by go_num, HO9.out, HF9.out⟩
     case measure => exact hms.out
   ·obtain rfl : k = n := by omega
    have c0 := HXR.out.cell 0 (v := .int .i64 4) rfl
    have c1 := HXR.out.cell 1 (v := .int .i64 0) rfl
    have c2 := HXR.out.cell 2 (v := .slice (some ⟨b, off, none⟩) k c) rfl
    have c3 := HXR.out.cell 3 (v := .int .i64 0) rfl
    go_wp2_with fail
    go_ret2
    exact ⟨⟨_, rfl, by have := HOW.out; unfold hdrB ptsN; simpa using this⟩, HB.out⟩
 ·subst h
  go_enter Tryz.func88, Tryz.ntmps88
  go_wp2_with fail
  have HX := η (Bx.new w #[.int .i64 5, .int .i64 0, .slice (some ⟨b, off, none⟩) n c, .int .i64 p] 28)
  have HB1 := η (show Below w.heap.size w (w.alloc (.cells #[.int .i64 5, .int .i64 0, .slice (some ⟨b, off, none⟩) n c, .int .i64 p] 28)) from J8 J0)
  generalize w.alloc (.cells #[.int .i64 5, .int .i64 0, .slice (some ⟨b, off, none⟩) n c, .int .i64 p] 28) = w1 at *
  have c0 := HX.out.cell 0 (v := .int .i64 5) rfl
  have c1 := HX.out.cell 1 (v := .int .i64 0) rfl
  have c2 := HX.out.cell 2 (v := .slice (some ⟨b, off, none⟩) n c) rfl
  have c3 := HX.out.cell 3 (v := .int .i64 p) rfl
  go_wp2_with fail
  clear c0 c1 c2 c3
  refine (Zan 5 p HOP (some ⟨b, off, none⟩) n c d v Q HO.out HQ.out _ (HR.out.below HB1.out ν)).mono ?_
  rintro e w2 ⟨rfl, B⟩
  have HX2 := η (HX.out.below B ν); have HB2 := η (J6 HB1.out B)
  clear B HX HB1
  have c0 := HX2.out.cell 0 (v := .int .i64 5) rfl
  have c1 := HX2.out.cell 1 (v := .int .i64 0) rfl
  have c2 := HX2.out.cell 2 (v := .slice (some ⟨b, off, none⟩) n c) rfl
  have c3 := HX2.out.cell 3 (v := .int .i64 p) rfl
  have hlt2 := HX2.out.lt
  have hsz := HB2.out.size
  have en := Jq (x := (n : Int)) (by omega) (by omega)
  have HO1 := η (show OwB (w2.alloc (.cells #[.int .u8 5] 5)) w.heap.size (.slice (some ⟨w2.heap.size, 0, none⟩) 1 1) [5] from ⟨rfl, .inr ⟨w2.heap.size, 1, #[.int .u8 5], rfl, HB2.out.size, Bx.new _ _ _, Nat.le_refl _, by decide, rfl, rfl⟩⟩)
  go_wp2_with (at_builtin; refine wpList_append_own _ rfl _ _ 24 rfl w.heap.size 5 i0 (.int .u8 0) 1 1 Tryz.underlying24 hi0 hz0 hz1 hz2 rfl (by decide) _ _ _ rfl (HO1.out.alloc _) ⟨w2.heap.size + 1, 0, none⟩ 1 1 [.int .u8 (n : Int)] rfl rfl ?c1 ?c2 ?c3 ?c4 ?c5 ?_)
  case c1 => exact Jo (by simp) _ _
  case c2 => simp [Value.oneCell']
  case c3 => skip; first | decide | (unfold maxLen; omega)
  case c4 => skip; first | decide | omega
  case c5 => first | (simp; done) | (simp; omega)
  intro v' w' hown2 hgrow _
  have HF3 := η ((((Fr.refl w.heap.size none w2).alloc hsz (.cells #[.int .u8 5] 5)).alloc (Nat.le_trans hsz (by simp)) (.cells #[.int .u8 (n : Int)] 5)).grown hgrow (HO1.out.alloc _) (Nat.le_trans hsz (by simp; omega)))
  have HO3 := η (show OwB w' w.heap.size v' (5 :: (n : Int) :: codL d v 0) from OwB.snoc (l := [5]) hown2 rfl)
  clear hown2 hgrow HO1 c0 c1 c2 c3 en hlt2 hsz
  have HX3 := η (HF3.out.keep _ _ _ (by decide) (by simp) HX2.out)
  have c0 := HX3.out.cell 0 (v := .int .i64 5) rfl
  have c1 := HX3.out.cell 1 (v := .int .i64 0) rfl
  have c2 := HX3.out.cell 2 (v := .slice (some ⟨b, off, none⟩) n c) rfl
  have c3 := HX3.out.cell 3 (v := .int .i64 p) rfl
  go_wp2_with fail
  clear c0 c1 c2 c3
  go_loopw [5, 41] (fun vr ir wr => ∃ k : Nat, k ≤ n ∧ ir = .int .i64 (k : Int) ∧ OwB wr w.heap.size vr (5 :: (n : Int) :: codL d v k) ∧ Fr w.heap.size none w2 wr) (fun _ i _ => n - (intOf i).toNat)
  case atStart => exact ⟨0, by omega, rfl, HO3.out, HF3.out⟩
  case round =>
   obtain ⟨k, hk, rfl, hown, hfr⟩ := hrel
   have HOW := η hown; have HFR := η hfr; clear hown hfr
   have HB := η (HB2.out.trans HFR.out.below)
   have HXR := η (HFR.out.keep _ _ _ (by decide) (by simp) HX2.out)
   by_cases hlt : k < n
   ·have p0 : wr.cell? ⟨b, off + k * 3, none⟩ = some (.bool (d k)) := (HB.out.cell (p := ⟨b, off + k * 3, none⟩) HBL.out).trans (HC.out k hlt).1
    have p1 : wr.cell? ⟨b, off + k * 3 + 1, none⟩ = some (.int .i64 (v k)) := (HB.out.cell (p := ⟨b, off + k * 3 + 1, none⟩) HBL.out).trans (HC.out k hlt).2.1
    have p2 : wr.cell? ⟨b, off + k * 3 + 2, none⟩ = some (.slice (Q k).1 (Q k).2.1 (Q k).2.2) := (HB.out.cell (p := ⟨b, off + k * 3 + 2, none⟩) HBL.out).trans (HC.out k hlt).2.2
    have hms := η (show n - (intOf (.int .i64 ((k : Int) + 1))).toNat < n - (intOf (.int .i64 (k : Int))).toNat from by simp [intOf]; omega)
    have HRG := η (HO.out.range hlt)
    have hsz := HB.out.size
    have e1 := Jq (x := v k) HRG.out.1 (by have := HRG.out.2.1; omega)
    have e2 := Zh7 HRG.out.1 HRG.out.2.1
    have HLN := η (show ((5 :: (n : Int) :: codL d v k)).length = k + 2 from by simp [Jn])
    cases hd : d k
    ·have HCB := η (show codB d v k = v k from by unfold codB; rw [hd]; rfl)
     rw [hd] at p0
     clear hd
     go_wp2_with (at_builtin; refine wpList_append_own _ rfl _ _ 24 rfl w.heap.size 5 i0 (.int .u8 0) 1 1 Tryz.underlying24 hi0 hz0 hz1 hz2 rfl (by decide) _ _ _ rfl ((HOW.out.alloc (.cells #[.bool false, .int .i64 (v k), .slice (Q k).1 (Q k).2.1 (Q k).2.2] 48)).alloc (.cells #[.int .u8 (v k)] 5)) ⟨wr.heap.size + 1, 0, none⟩ 1 1 [.int .u8 (v k)] rfl rfl ?c1 ?c2 ?c3 ?c4 ?c5 ?_)
     case c1 => exact Jo (by simp) _ _
     case c2 => simp [Value.oneCell']
     case c3 => have := HLN.out; first | decide | (unfold maxLen; omega)
     case c4 => have := HLN.out; first | decide | omega
     case c5 => (simp; omega)
     intro v' w' hown2 hgrow _
     have HF9 := η (((HFR.out.alloc hsz (.cells #[.bool false, .int .i64 (v k), .slice (Q k).1 (Q k).2.1 (Q k).2.2] 48)).alloc (Nat.le_trans hsz (by simp)) (.cells #[.int .u8 (v k)] 5)).grown hgrow ((HOW.out.alloc (.cells #[.bool false, .int .i64 (v k), .slice (Q k).1 (Q k).2.1 (Q k).2.2] 48)).alloc (.cells #[.int .u8 (v k)] 5)) (Nat.le_trans hsz (by simp; omega)))
     have HO9 := η (show OwB w' w.heap.size v' (5 :: (n : Int) :: codL d v (k + 1)) from by
      have h := OwB.snoc (l := (5 :: (n : Int) :: codL d v k)) hown2 rfl
      rw [codL, HCB.out]; exact h)
     clear hown2 hgrow
     go_wp2_with fail
     go_roundw
     case rel => exact ⟨k + 1, hlt, by go_num, HO9.out, HF9.out⟩
     case measure => exact hms.out
    ·have HCB := η (show codB d v k = v k + 128 from by unfold codB; rw [hd]; rfl)
     rw [hd] at p0
     clear hd
     go_wp2_with (at_builtin; refine wpList_append_own _ rfl _ _ 24 rfl w.heap.size 5 i0 (.int .u8 0) 1 1 Tryz.underlying24 hi0 hz0 hz1 hz2 rfl (by decide) _ _ _ rfl ((HOW.out.alloc (.cells #[.bool true, .int .i64 (v k), .slice (Q k).1 (Q k).2.1 (Q k).2.2] 48)).alloc (.cells #[.int .u8 (v k + 128)] 5)) ⟨wr.heap.size + 1, 0, none⟩ 1 1 [.int .u8 (v k + 128)] rfl rfl ?c1 ?c2 ?c3 ?c4 ?c5 ?_)
     case c1 => exact Jo (by simp) _ _
     case c2 => simp [Value.oneCell']
     case c3 => have := HLN.out; first | decide | (unfold maxLen; omega)
     case c4 => have := HLN.out; first | decide | omega
     case c5 => (simp; omega)
     intro v' w' hown2 hgrow _
     have HF9 := η (((HFR.out.alloc hsz (.cells #[.bool true, .int .i64 (v k), .slice (Q k).1 (Q k).2.1 (Q k).2.2] 48)).alloc (Nat.le_trans hsz (by simp)) (.cells #[.int .u8 (v k + 128)] 5)).grown hgrow ((HOW.out.alloc (.cells #[.bool true, .int .i64 (v k), .slice (Q k).1 (Q k).2.1 (Q k).2.2] 48)).alloc (.cells #[.int .u8 (v k + 128)] 5)) (Nat.le_trans hsz (by simp; omega)))
     have HO9 := η (show OwB w' w.heap.size v' (5 :: (n : Int) :: codL d v (k + 1)) from by
      have h := OwB.snoc (l := (5 :: (n : Int) :: codL d v k)) hown2 rfl
      rw [codL, HCB.out]; exact h)
     clear hown2 hgrow
     go_wp2_with fail
     go_roundw
     case rel => exact ⟨k + 1, hlt, by go_num, HO9.out, HF9.out⟩
     case measure => exact hms.out
   ·obtain rfl : k = n := by omega
    have c0 := HXR.out.cell 0 (v := .int .i64 5) rfl
    have c1 := HXR.out.cell 1 (v := .int .i64 0) rfl
    have c2 := HXR.out.cell 2 (v := .slice (some ⟨b, off, none⟩) k c) rfl
    have c3 := HXR.out.cell 3 (v := .int .i64 p) rfl
    have hsz := HB.out.size
    have HLN := η (show ((5 :: (k : Int) :: codL d v k)).length = k + 2 from by simp [Jn])
    have e1 : IntKind.u8.wrap p = p % 256 := IntKind.wrap_u8 p
    have e2 : IntKind.u8.wrap (p / 256) = p / 256 := Jq (by omega) (by omega)
    go_wp2_with (at_builtin; refine wpList_append_own _ rfl _ _ 24 rfl w.heap.size 5 i0 (.int .u8 0) 1 1 Tryz.underlying24 hi0 hz0 hz1 hz2 rfl (by decide) _ _ _ rfl (HOW.out.alloc (.cells #[.int .u8 (p % 256), .int .u8 (p / 256)] 5)) ⟨wr.heap.size, 0, none⟩ 2 2 [.int .u8 (p % 256), .int .u8 (p / 256)] rfl rfl ?c1 ?c2 ?c3 ?c4 ?c5 ?_)
    case c1 => exact JE rfl _ _ _
    case c2 => simp [Value.oneCell']
    case c3 => have := HLN.out; first | decide | (unfold maxLen; omega)
    case c4 => have := HLN.out; first | decide | omega
    case c5 => (simp; omega)
    intro v' w' hown2 hgrow _
    have HF9 := η ((HFR.out.alloc hsz (.cells #[.int .u8 (p % 256), .int .u8 (p / 256)] 5)).grown hgrow (HOW.out.alloc (.cells #[.int .u8 (p % 256), .int .u8 (p / 256)] 5)) (Nat.le_trans hsz (by simp)))
    have HO9 := η (show OwB w' w.heap.size v' (hdrB 5 k d v p) from OwB.snoc2 (l := (5 :: (k : Int) :: codL d v k)) hown2 rfl)
    clear hown2 hgrow
    go_wp2_with fail
    go_ret2
    exact ⟨⟨_, rfl, HO9.out⟩, HB2.out.trans HF9.out.below⟩
theorem ZeY : (Tryz.prog.info? 48).map (fun i => (i.zero, i.size, i.bytes)) = some (some (.agg #[.bool false, .int .i64 0, .slice none 0 0]), 3, 40) := by kernel_rfl
def rgL (d : Nat → Bool) (v : Nat → Int) (Q : Nat → Option Addr × Nat × Nat) : Nat → List Value
 | 0 => []
 | k + 1 => rgL d v Q k ++ [.bool (d k), .int .i64 (v k), .slice (Q k).1 (Q k).2.1 (Q k).2.2]
theorem ZdF (d : Nat → Bool) (v : Nat → Int) (Q : Nat → Option Addr × Nat × Nat) : ∀ k, (rgL d v Q k).length = k * 3
 | 0 => rfl
 | k + 1 => by rw [rgL, List.length_append, ZdF d v Q k]; simp; omega
theorem Zg7 (d : Nat → Bool) (v : Nat → Int) (Q : Nat → Option Addr × Nat × Nat) : ∀ n i, i < n → (rgL d v Q n)[i * 3]? = some (.bool (d i)) ∧ (rgL d v Q n)[i * 3 + 1]? = some (.int .i64 (v i)) ∧ (rgL d v Q n)[i * 3 + 2]? = some (.slice (Q i).1 (Q i).2.1 (Q i).2.2)
 | 0, i, h => absurd h (by omega)
 | n + 1, i, h => by
  rw [rgL]
  rcases (by omega : i < n ∨ i = n) with h1 | rfl
  ·have hl := ZdF d v Q n
   rw [List.getElem?_append_left (by omega), List.getElem?_append_left (by omega), List.getElem?_append_left (by omega)]
   exact Zg7 d v Q n i h1
  ·have hl := ZdF d v Q i
   rw [List.getElem?_append_right (by omega), List.getElem?_append_right (by omega), List.getElem?_append_right (by omega), hl]
   simp
def OwR (w : World) (base : Nat) (x : Value) (n : Nat) (d : Nat → Bool) (v : Nat → Int) (Q : Nat → Option Addr × Nat × Nat) : Prop := w.ownsRow base 48 3 x n (rgL d v Q n)
theorem OwR.below {w w' : World} {base B n : Nat} {x : Value} {d : Nat → Bool} {v : Nat → Int} {Q : Nat → Option Addr × Nat × Nat} (h : OwR w base x n d v Q) (hb : Below B w w') (hB : w.heap.size ≤ B) : OwR w' base x n d v Q := by
 refine ⟨h.1, ?_⟩
 rcases h.2 with h | ⟨g, c, cur, e1, e2, e3, e4⟩
 ·exact .inl h
 ·exact .inr ⟨g, c, cur, e1, e2, (show Bx w' g cur _ from Bx.below e3 hb hB), e4⟩
theorem OwR.alloc {w : World} {base n : Nat} {x : Value} {d : Nat → Bool} {v : Nat → Int} {Q : Nat → Option Addr × Nat × Nat} (h : OwR w base x n d v Q) (o : Obj) : OwR (w.alloc o) base x n d v Q := h.below ((Below.refl w.heap.size w).alloc ν o) ν
theorem OwR.drew {w : World} {base n : Nat} {x : Value} {d : Nat → Bool} {v : Nat → Int} {Q : Nat → Option Addr × Nat × Nat} (h : OwR w base x n d v Q) : OwR w.drew base x n d v Q := h.below (Below.refl w.heap.size w).drew ν
theorem OwR.snoc {w : World} {base n m : Nat} {x : Value} {d : Nat → Bool} {v : Nat → Int} {Q : Nat → Option Addr × Nat × Nat} (h : w.ownsRow base 48 3 x m (rgL d v Q n ++ [.bool (d n), .int .i64 (v n), .slice (Q n).1 (Q n).2.1 (Q n).2.2])) (hm : m = n + 1) : OwR w base x (n + 1) d v Q := by subst hm; exact h
theorem OwR.nil (w : World) (base : Nat) (d : Nat → Bool) (v : Nat → Int) (Q : Nat → Option Addr × Nat × Nat) : OwR w base (.slice none 0 0) 0 d v Q := ⟨rfl, .inl ⟨rfl, rfl⟩⟩
theorem OwR.rgs {w : World} {base n : Nat} {x : Value} {d : Nat → Bool} {v : Nat → Int} {Q : Nat → Option Addr × Nat × Nat} (h : OwR w base x n d v Q) (hn : 0 < n) (hi : ∀ i, i < n → IsI (v i)) : ∃ g c, x = .slice (some ⟨g, 0, none⟩) n c ∧ base ≤ g ∧ Rgs w (some ⟨g, 0, none⟩) n c d v Q ∧ ∃ cur, Bx w g cur 48 := by
 rcases h.2 with ⟨_, h0⟩ | ⟨g, c, cur, e1, e2, e3, e4, e5, e6, e7⟩
 ·omega
 ·subst e1
  refine ⟨g, c, rfl, e2, ⟨e4, e5, hi, fun _ => ⟨g, 0, rfl, (show Bx w g cur _ from e3).lt, fun i hi' => ?_⟩⟩, cur, e3⟩
  have hg := Zg7 d v Q n i hi'
  rw [Nat.zero_add, World.ownsRow.cellAt h _ (by omega), World.ownsRow.cellAt h _ (by omega), World.ownsRow.cellAt h _ (by omega)]
  exact hg
theorem JV {w w' : World} {base n b : Nat} {x : Value} {xs : List Value} {cs : Array Value} {t : TypeId} (h : Bx w b cs t) (ht : t ≠ 48) (hg : w.grownBy w' x.ownBlock) (ho : w.ownsRow base 48 3 x n xs) : Bx w' b cs t := by
 refine (hg.block b h.lt fun e => ?_).trans h
 obtain ⟨_, cur, h5⟩ := Jv ho e.symm
 have := (show w.heap[b]? = _ from h).symm.trans h5
 simp at this
 exact ht this.2
theorem ZaA {w w' w0 : World} {base n B : Nat} {x : Value} {xs : List Value} (h : Below B w0 w) (hs : B ≤ w.heap.size) (hB : B ≤ base) (hg : w.grownBy w' x.ownBlock) (ho : w.ownsRow base 48 3 x n xs) : Below B w0 w' :=
 h.grown hg hs (fun k e => Nat.le_trans hB (Jv ho e).1)
theorem OwR.setOther {w : World} {base b i n : Nat} {x y : Value} {d : Nat → Bool} {v : Nat → Int} {Q : Nat → Option Addr × Nat × Nat} {cs : Array Value} {t : TypeId} (h : OwR w base x n d v Q) (hb : Bx w b cs t) (ht : t ≠ 48) : OwR (w.setCell ⟨b, i, none⟩ y) base x n d v Q := by
 refine ⟨h.1, ?_⟩
 rcases h.2 with h | ⟨g, c, cur, e1, e2, e3, e4⟩
 ·exact .inl h
 ·refine .inr ⟨g, c, cur, e1, e2, (Bx.other e3 _ fun e => ?_), e4⟩
  obtain rfl : g = b := e
  have := (show w.heap[g]? = _ from hb).symm.trans e3
  simp at this
  exact ht this.2
theorem Rgs.setFar {w : World} {g off n c k i : Nat} {x : Value} {d : Nat → Bool} {v : Nat → Int} {Q : Nat → Option Addr × Nat × Nat} (h : Rgs w (some ⟨g, off, none⟩) n c d v Q) (hne : g ≠ k) : Rgs (w.setCell ⟨k, i, none⟩ x) (some ⟨g, off, none⟩) n c d v Q :=
 ⟨h.cap, h.max, h.isi, fun hn => by
  obtain ⟨b, o, e, hlt, hc⟩ := h.at_ hn
  obtain ⟨rfl, rfl⟩ : g = b ∧ off = o := by simpa using e
  refine ⟨g, off, rfl, by simpa using hlt, fun j hj => ⟨Jc (hc j hj).1 hne, Jc (hc j hj).2.1 hne, Jc (hc j hj).2.2 hne⟩⟩⟩
theorem Zaa {w : World} {a b : Nat} {cs cs' : Array Value} {t t' : TypeId} (h : Bx w a cs t) (h' : Bx w b cs' t') (ht : t ≠ t') : a ≠ b := by
 rintro rfl
 have := (show w.heap[a]? = _ from h).symm.trans (show w.heap[a]? = _ from h')
 simp at this
 exact ht this.2
theorem Zab {w : World} {b : Nat} (hb : b = w.heap.size) (x y z : Value) (t : TypeId) : ∀ j u, [x, y, z][j]? = some u → (w.alloc (.cells #[x, y, z] t)).cell? ((⟨b, 0, none⟩ : Addr).add j) = some u := by
 subst hb
 intro j u h
 have hb : Bx (w.alloc (.cells #[x, y, z] t)) w.heap.size #[x, y, z] t := Bx.new _ _ _
 match j, h with
 | 0, h => exact hb.cell 0 (v := u) (by simpa using h)
 | 1, h => exact hb.cell 1 (v := u) (by simpa using h)
 | 2, h => exact hb.cell 2 (v := u) (by simpa using h)
theorem Zg8 {d : Nat → Bool} {v : Nat → Int} {k : Nat} (h0 : 0 ≤ v k) (h1 : v k ≤ 64) : decide (128 ≤ codB d v k) = d k := by
 unfold codB; cases d k <;> simp <;> omega
theorem ZeZ {d : Nat → Bool} {v : Nat → Int} {k : Nat} (h0 : 0 ≤ v k) (h1 : v k ≤ 64) : bits .andNot .u8 (codB d v k) 128 = v k := by
 have h : ∀ m : Fin 65, bits .andNot .u8 (((m : Nat) : Int) + 128) 128 = ((m : Nat) : Int) ∧ bits .andNot .u8 ((m : Nat) : Int) 128 = ((m : Nat) : Int) := by decide
 have := h ⟨(v k).toNat, by omega⟩
 rw [show (((v k).toNat : Nat) : Int) = v k by omega] at this
 unfold codB; cases d k
 ·exact this.2
 ·exact this.1
theorem ZcT (d : Nat → Bool) (v : Nat → Int) : ∀ n i, i < n → (codL d v n)[i]? = some (codB d v i)
 | 0, i, h => absurd h (by omega)
 | n + 1, i, h => by
  rw [codL]
  have hl := Jn d v n
  rcases (by omega : i < n ∨ i = n) with h1 | rfl
  ·rw [List.getElem?_append_left (by omega)]; exact ZcT d v n i h1
  ·rw [List.getElem?_append_right (by omega), hl]; simp
theorem Zcx {xs : Array Value} {t : Nat} {v : Value} (h : xs[t]? = some v) : xs[t]?.getD undef = v := by rw [h]; rfl
def Zcy (P : Program) (ops : Array Oper) (Q : Exit → Act → World → Prop) (i : Nat) (K : Act → World → Prop) (a : Act) (w : World) : Prop :=
 match ops[i]? with
 | none => K a w
 | some o => if Region.wanted o (yielded ops a.tmps) then o.wp P a w K Q else K (a.put o.dst undef) w
section
variable {P : Program} {ops : Array Oper} {Q : Exit → Act → World → Prop} {n : Nat}
theorem Zgy {i : Nat} {o : Oper} {K : Act → World → Prop} {a : Act} {w : World} (ho : ops[i]? = some o)
  (h : ∀ K' : Act → World → Prop, (∀ a w, K a w → K' a w) → if Region.wanted o (yielded ops a.tmps) = true then Oper.wp P o a w K' Q else K' (a.put o.dst undef) w) : Zcy P ops Q i K a w := by
 have := h K (fun _ _ h => h)
 unfold Zcy
 rw [ho]
 exact this
structure WideF (F : Fence) : Prop where
 fn : ∀ f, F.fn f
 depth : F.depth = none
 calls : ∀ {P : Program} {n f : Nat} {args : Array Value} {w : World} {R : Ending → World → Prop}, Calls P f args w R → CallsIn F n P f args w R
 rows : ∀ {P : Program} {n : Nat} {row : String} {args : Array Value} {w : World} {R : Value → World → Prop}, Rows P row args w R → RowsIn F n P row args w R
theorem ZcH {n : Nat} {row : String} {args : Array Value} {w : World} {R : Value → World → Prop} (h : Rows P row args w R) : RowsIn Fence.wide n P row args w R :=
 fun c cs _ => let ⟨v, w', r, s⟩ := h c cs; ⟨v, w', r, stepsIn_wide.2 s⟩
theorem WideF.wide : WideF Fence.wide := ⟨fun _ => trivial, rfl, fun h => callsIn_wide.2 h, fun h => ZcH h⟩
theorem WideF.round (l : Nat) : WideF (Fence.wide.inRound l) := ⟨fun _ => trivial, rfl, fun h => CallsIn.inRound l (callsIn_wide.2 h), fun h => ZcH h⟩
theorem Zgz {F : Fence} (hF : WideF F) {o : Oper} (hd : ∀ c, o.op ≠ .defer c) {a : Act} {w : World} {K : Act → World → Prop} (h : o.wp P a w K Q) : o.wpIn F n P a w K Q := by
 unfold Oper.wpIn
 refine ⟨fun f _ => hF.fn f, ?_⟩
 rw [Oper.semAt_eq _ _ _ hd]
 unfold Oper.wp at h
 generalize (execOp a.eval o).run P w = r at *
 cases r with
 | ok x w' =>
  cases x <;> simp only [Oper.upon, Oper.uponIn] at h ⊢
  all_goals first
   | exact h
   | exact ⟨fun hh => by rw [hF.depth] at hh; simp at hh, hF.rows h⟩
   | exact False.elim h
   | skip
  refine ⟨fun hh => by rw [hF.depth] at hh; simp at hh, hF.calls (Calls.mono h ?_)⟩
  intro e w'' he
  cases e <;> exact he
 | halt x w' => cases x <;> simp only [Oper.upon, Oper.uponIn] at h ⊢ <;> exact h
def Zcz (ops : Array Oper) : Bool := ops.all fun o => match o.op with | .defer _ => false | _ => true
theorem Zf0 (h : Zcz ops = true) {i : Nat} {o : Oper} (ho : ops[i]? = some o) : ∀ c, o.op ≠ .defer c := by
 intro c e
 unfold Zcz at h
 rw [Array.all_eq_true_iff_forall_mem] at h
 have := h o (Array.mem_of_getElem? ho)
 rw [e] at this
 cases this
theorem ZfH {F : Fence} (hF : WideF F) (hnd : Zcz ops = true) {i : Nat} {a : Act} {w : World} {K : Act → World → Prop} (h : Zcy P ops Q i K a w) : wpOpIn F n P ops Q i K a w := by
 unfold Zcy at h
 unfold wpOpIn
 cases ho : ops[i]? with
 | none => rw [ho] at h; exact h
 | some o =>
  rw [ho] at h
  show if Region.wanted o (yielded ops a.tmps) = true then _ else _
  have h' : if Region.wanted o (yielded ops a.tmps) = true then o.wp P a w K Q else K (a.put o.dst undef) w := h
  split
  ·rename_i hw; rw [if_pos hw] at h'; exact Zgz hF (Zf0 hnd ho) h'
  ·rename_i hw; rw [if_neg hw] at h'; exact ⟨fun f _ => hF.fn f, h'⟩
theorem ZfI {F : Fence} {md : Region.Mode} (I : Array Bool → Act → World → Prop) (hord : ordB md ops = true)
  (hstep : ∀ (listed : Array Bool) (a : Act) (w : World) (i : Nat) (o : Oper), listed.size = ops.size → ops[i]? = some o → listed.getD i true = false → (∀ e ∈ o.after, Region.binds md e = true → listed.getD e.on false = true) →
   I listed a w → wpOpIn F n P ops Q i (I (listed.setIfInBounds i true)) a w)
  (hend : ∀ (listed : Array Bool) (a : Act) (w : World), listed.size = ops.size → (∀ i, i < ops.size → listed.getD i false = true) → I listed a w → Q .normal a w) :
  ∀ (fuel : Nat) (listed : Array Bool) (a : Act) (w : World), listed.size = ops.size → unl listed ≤ fuel → I listed a w → wpAnyIn F n P md ops Q fuel listed a w := by
 intro fuel
 induction fuel with
 | zero =>
  intro listed a w hs hu hI
  have hall := Zd9 (l := listed) (by omega)
  refine ⟨?_, hend _ _ _ hs (fun i hi => hall i (by omega)) hI⟩
  rw [List.eq_nil_iff_forall_not_mem]
  intro i hi
  obtain ⟨h0, o, ho, _⟩ := mem_ready.1 hi
  obtain ⟨hi', he⟩ := Zbz h0
  have := hall i hi'
  simp [Array.getD, hi', he] at this
 | succ fuel ih =>
  intro listed a w hs hu hI
  refine ⟨fun hr => hend _ _ _ hs (Zc9 hord hs hr) hI, fun i hi => ?_⟩
  obtain ⟨h0, o, ho, hp⟩ := mem_ready.1 hi
  refine wpOpIn_mono (fun a' w' h' => ih _ a' w' (by simpa using hs) (by have := Zg5 h0; omega) h') (hstep listed a w i o hs ho h0 hp hI)
def Zis (ops : Array Oper) (m : Nat) (vs : List (Nat × Nat)) (n : Nat) : Bool :=
 ordB .any ops && Zcz ops && decide (m ≤ ops.size) && decide ((vs.map (·.2)).Nodup) && decide ((vs.map (·.1)).Nodup) && vs.all (fun v => decide (v.1 < m) && decide (v.2 < n)) &&
 ((List.range m).all fun i => vs.any fun v => v.1 == i) && (decide (m = ops.size) || (List.range m).all fun j => (List.range (m + 1)).any fun i => decide (j < i) && depB ops i j) &&
 (List.range ops.size).all fun i => decide (i ≤ m) || depB ops i (i - 1)
theorem Ze2 {vs : List ValD} {a a0 : Act} (hvinj : ∀ u ∈ vs, ∀ v ∈ vs, u.slot = v.slot → u = v) (hlt : ∀ v ∈ vs, v.slot < a0.tmps.size) (j2 : a.tmps.size = a0.tmps.size) (j3 : a.defers = a0.defers)
  (j4 : ∀ t, (vs.map (·.slot)).contains t = false → a.tmps[t]? = a0.tmps[t]?) (hX : ∀ v ∈ vs, ∃ x, a.tmps[v.slot]? = some x) :
  a = vs.foldl (fun b v => b.put (some v.slot) ((a.tmps[v.slot]?).getD undef)) a0 := by
 have hfv : ∀ (X : Nat → Value) (l : List ValD) (a1 : Act), (∀ v ∈ l, v.slot < a1.tmps.size) → (l.foldl (fun a v => a.put (some v.slot) (X v.slot)) a1).defers = a1.defers ∧ (l.foldl (fun a v => a.put (some v.slot) (X v.slot)) a1).tmps.size = a1.tmps.size ∧
   ∀ t, (l.foldl (fun a v => a.put (some v.slot) (X v.slot)) a1).tmps[t]? = if t ∈ l.map (·.slot) then some (X t) else a1.tmps[t]? := fun X l => by
  induction l with
  | nil => intro a1 _; exact ⟨rfl, rfl, fun t => by simp⟩
  | cons x xs ih =>
   intro a1 h
   have hx := h x (by simp)
   have hs : (a1.put (some x.slot) (X x.slot)).tmps.size = a1.tmps.size := by simp [Act.put]
   obtain ⟨h1, h2, h3⟩ := ih (a1.put (some x.slot) (X x.slot)) (fun b hb => by rw [hs]; exact h b (List.mem_cons_of_mem _ hb))
   simp only [List.foldl_cons]
   refine ⟨h1.trans rfl, h2.trans hs, fun t => ?_⟩
   rw [h3 t, Za0 hx]
   simp only [List.map_cons, List.mem_cons]
   by_cases e : t ∈ xs.map (·.slot)
   ·simp [e]
   ·by_cases e2 : x.slot = t
    ·subst e2; simp [e]
    ·simp [e, e2, Ne.symm e2]
 obtain ⟨f1, f2, f3⟩ := hfv (fun t => (a.tmps[t]?).getD undef) vs a0 hlt
 have ht : a.tmps = (vs.foldl (fun b v => b.put (some v.slot) ((a.tmps[v.slot]?).getD undef)) a0).tmps := by
  apply Array.ext_getElem?
  intro t
  rw [f3 t]
  by_cases e : t ∈ vs.map (·.slot)
  ·rw [if_pos e]
   obtain ⟨v, hv, rfl⟩ := List.mem_map.1 e
   obtain ⟨x, hx⟩ := hX v hv
   rw [hx]; rfl
  ·rw [if_neg e]
   refine j4 t ?_
   cases hc : (vs.map (·.slot)).contains t with
   | false => rfl
   | true => rw [List.contains_iff_mem] at hc; exact absurd hc e
 have hdf := j3.trans f1.symm
 revert ht hdf
 generalize vs.foldl (fun b v => b.put (some v.slot) ((a.tmps[v.slot]?).getD undef)) a0 = a1
 cases a; cases a1
 intro ht hdf
 simp only at ht hdf
 subst ht hdf
 rfl
theorem Jk {F : Fence} (hF : WideF F) (E : World → World → Prop) (hE0 : ∀ w, E w w) (hEt : ∀ a b c, E a b → E b c → E a c) {a0 : Act} {w0 : World} (vs : List ValD) (m : Nat) (hV : Zis ops m (vs.map fun v => (v.op, v.slot)) a0.tmps.size = true)
  (hsv : allP (fun v => ∀ x w w', E w w' → v.P x w → v.P x w') vs)
  (hval : allP (fun v => ∀ (a : Act) (w : World) K, E w0 w → (∀ t, (vs.map (·.slot)).contains t = false → a.tmps[t]? = a0.tmps[t]?) → (∀ (k : Nat) (u : ValD), vs[k]? = some u → depB ops v.op u.op = true → ∃ x, a.tmps[u.slot]? = some x ∧ u.P x w) →
   (∀ x w', E w w' → v.P x w' → K (a.put (some v.slot) x) w') → Zcy P ops Q v.op K a w) vs)
  (hend : ∀ w (X : Nat → Value), E w0 w → allP (fun v => v.P (X v.slot) w) vs →
   wpListIn F n P ops Q (ops.toList.drop m) (vs.foldl (fun a v => a.put (some v.slot) (X v.slot)) a0) w) :
  wpAnyIn F n P .any ops Q ops.size (Array.replicate ops.size false) a0 w0 := by
 simp only [Zis, Bool.and_eq_true, decide_eq_true_eq, List.all_eq_true, List.map_map, Bool.or_eq_true] at hV
 obtain ⟨⟨⟨⟨⟨⟨⟨⟨hord, hnd⟩, hm⟩, n1⟩, n2⟩, n3⟩, n4⟩, n5⟩, n6⟩ := hV
 have v3 : ∀ v ∈ vs, v.op < m ∧ v.slot < a0.tmps.size := fun v hv => n3 (v.op, v.slot) (List.mem_map.2 ⟨v, hv, rfl⟩)
 have hvinj : ∀ u ∈ vs, ∀ v ∈ vs, u.slot = v.slot → u = v := fun u hu v hv e => Za4 (f := ValD.slot) (by have h := n1; exact h) hu hv e
 have hoinj : ∀ u ∈ vs, ∀ v ∈ vs, u.op = v.op → u = v := fun u hu v hv e => Za4 (f := ValD.op) (by have h := n2; exact h) hu hv e
 have hdep : ∀ {i j : Nat} {o : Oper} {listed : Array Bool}, ops[i]? = some o → (∀ e ∈ o.after, Region.binds .any e = true → listed.getD e.on false = true) → depB ops i j = true → listed.getD j false = true := fun {i j o listed} ho hp hd => by
  unfold depB at hd
  rw [ho] at hd
  simp only [Option.map_some, Option.getD_some, Array.any_eq_true'] at hd
  obtain ⟨e, he, h5⟩ := hd
  simp only [Bool.and_eq_true, beq_iff_eq] at h5
  exact h5.2 ▸ hp e he h5.1
 have hdl : ∀ {i j : Nat}, depB ops i j = true → i < ops.size := fun {i j} hd => by
  unfold depB at hd
  cases ho : ops[i]? with
  | none => rw [ho] at hd; simp at hd
  | some o => exact (Array.getElem?_eq_some_iff.1 ho).1
 have hops : ∀ k, k ≤ ops.size → wpOpsIn F n P ops Q (List.range' k (ops.size - k)) = wpListIn F n P ops Q (ops.toList.drop k) := fun k hk => by
  have := wpOpsIn_eq_wpListIn (F := F) (n := n) (P := P) (ops := ops) (Q := Q) (ops.toList.drop k) k (fun j => by simp)
  rwa [List.length_drop, Array.length_toList] at this
 refine ZfI (fun listed a w => (∀ i o, ops[i]? = some o → listed.getD i false = true → ∀ e ∈ o.after, Region.binds .any e = true → listed.getD e.on false = true) ∧
   (((∀ i, m ≤ i → listed.getD i false = false) ∧ E w0 w ∧ a.tmps.size = a0.tmps.size ∧ a.defers = a0.defers ∧ (∀ t, (vs.map (·.slot)).contains t = false → a.tmps[t]? = a0.tmps[t]?) ∧
    ∀ v ∈ vs, listed.getD v.op false = true → ∃ x, a.tmps[v.slot]? = some x ∧ v.P x w) ∨
   ∃ k, m < k ∧ k ≤ ops.size ∧ (∀ j, j < ops.size → (listed.getD j false = true ↔ j < k)) ∧ wpOpsIn F n P ops Q (List.range' k (ops.size - k)) a w)) hord ?_ ?_ ops.size _ a0 w0 (by simp) (by unfold unl; exact Nat.le_trans List.countP_le_length (by simp)) ?_
 ·rintro listed a w i o hsz ho hi hp ⟨hcl, h⟩
  have hil : i < ops.size := (Array.getElem?_eq_some_iff.1 ho).1
  have hset : ∀ j, (listed.setIfInBounds i true).getD j false = true ↔ j = i ∨ listed.getD j false = true := fun j => by
   by_cases e : i = j
   ·subst e; simp [Array.getD, hsz, hil]
   ·rw [getD_set_ne false e]; constructor
    ·exact .inr
    ·rintro (h | h)
     ·exact absurd h.symm e
     ·exact h
  have hcl' : ∀ j o', ops[j]? = some o' → (listed.setIfInBounds i true).getD j false = true → ∀ e ∈ o'.after, Region.binds .any e = true → (listed.setIfInBounds i true).getD e.on false = true := fun j o' hj hl e he hb => by
   rcases (hset j).1 hl with rfl | h2
   ·rw [ho] at hj; cases hj
    exact (hset _).2 (.inr (hp e he hb))
   ·exact (hset _).2 (.inr (hcl j o' hj h2 e he hb))
  have hpi : listed.getD i false = false := JY hi
  have htail : ∀ k, k ≤ ops.size → m ≤ k → i = k → (∀ j, j < ops.size → (listed.getD j false = true ↔ j < k)) → wpOpsIn F n P ops Q (List.range' k (ops.size - k)) a w →
    wpOpIn F n P ops Q i (fun a' w' => (∀ i' o, ops[i']? = some o → (listed.setIfInBounds i true).getD i' false = true → ∀ e ∈ o.after, Region.binds .any e = true → (listed.setIfInBounds i true).getD e.on false = true) ∧
     (((∀ i', m ≤ i' → (listed.setIfInBounds i true).getD i' false = false) ∧ E w0 w' ∧ a'.tmps.size = a0.tmps.size ∧ a'.defers = a0.defers ∧ (∀ t, (vs.map (·.slot)).contains t = false → a'.tmps[t]? = a0.tmps[t]?) ∧
      ∀ v ∈ vs, (listed.setIfInBounds i true).getD v.op false = true → ∃ x, a'.tmps[v.slot]? = some x ∧ v.P x w') ∨
     ∃ k, m < k ∧ k ≤ ops.size ∧ (∀ j, j < ops.size → ((listed.setIfInBounds i true).getD j false = true ↔ j < k)) ∧ wpOpsIn F n P ops Q (List.range' k (ops.size - k)) a' w')) a w := fun k hk hmk hik hlt hw => by
   subst hik
   rw [show ops.size - i = (ops.size - (i + 1)) + 1 by omega, List.range'_succ, wpOpsIn_cons] at hw
   refine wpOpIn_mono (fun a' w' h' => ⟨hcl', .inr ⟨i + 1, by omega, by omega, fun j hj => ?_, h'⟩⟩) hw
   rw [hset j, hlt j hj]; omega
  rcases h with ⟨h1, j1, j2, j3, j4, j5⟩ | ⟨k, hk1, hk2, hk3, hk4⟩
  ·by_cases him : i < m
   ·have h5 := n4 i (List.mem_range.2 him)
    rw [List.any_eq_true] at h5
    obtain ⟨q, hq, he⟩ := h5
    simp only [beq_iff_eq] at he
    obtain ⟨v, hv, rfl⟩ := List.mem_map.1 hq
    subst he
    refine ZfH hF hnd (hval.mem v hv a w _ j1 j4 (fun k u hu hd => j5 u (List.mem_of_getElem? hu) (hdep ho hp hd)) (fun x w' hbl hx => ⟨hcl', .inl ⟨fun i' hi' => ?_, hEt _ _ _ j1 hbl, by simp [Act.put, j2], j3, fun t ht => ?_, fun u hu hl => ?_⟩⟩))
    ·rw [getD_set_ne false (by have := (v3 v hv).1; show v.op ≠ i'; omega)]; exact h1 i' hi'
    ·have hne : v.slot ≠ t := fun e => by
      have hc : (vs.map (·.slot)).contains t = true := by
       rw [List.contains_iff_mem]; exact List.mem_map.2 ⟨_, hv, e⟩
      rw [hc] at ht; cases ht
     show (a.tmps.setIfInBounds v.slot _)[t]? = _
     rw [Array.getElem?_setIfInBounds_ne hne]; exact j4 t ht
    ·by_cases e : u = v
     ·subst e
      refine ⟨x, ?_, hx⟩
      show (a.tmps.setIfInBounds u.slot x)[u.slot]? = _
      simp [j2, (v3 u hu).2]
     ·have hne : v.op ≠ u.op := fun e' => e (hoinj u hu v hv e'.symm)
      have hl' : listed.getD u.op false = true := by
       rcases (hset u.op).1 hl with h | h
       ·exact absurd h.symm hne
       ·exact h
      obtain ⟨y, hy, hpy⟩ := j5 u hu hl'
      refine ⟨y, ?_, hsv.mem u hu y _ _ hbl hpy⟩
      show (a.tmps.setIfInBounds v.slot x)[u.slot]? = _
      rw [Array.getElem?_setIfInBounds_ne (fun e' => e (hvinj u hu v hv e'.symm))]; exact hy
   ·by_cases hie : i = m
    ·
     have hall : ∀ d j, m - j = d → j < m → listed.getD j false = true := by
      intro d
      induction d using Nat.strongRecOn with
      | _ d ih =>
       intro j hd hj
       rcases n5 with h | h
       ·omega
       ·have := h j (List.mem_range.2 hj)
        rw [List.any_eq_true] at this
        obtain ⟨i', hi', h2⟩ := this
        simp only [Bool.and_eq_true, decide_eq_true_eq] at h2
        have hi2 := List.mem_range.1 hi'
        by_cases e : i' = m
        ·subst e
         subst hie
         exact hdep ho hp h2.2
        ·have h3 := ih (m - i') (by omega) i' rfl (by omega)
         obtain ⟨o', ho'⟩ : ∃ o', ops[i']? = some o' := ⟨ops[i']'(by omega), by simp⟩
         exact hdep ho' (fun e he hb => hcl i' o' ho' h3 e he hb) h2.2
     have hX : ∀ v ∈ vs, ∃ x, a.tmps[v.slot]? = some x ∧ v.P x w := fun v hv => j5 v hv (hall _ _ rfl (v3 v hv).1)
     have hfin := Ze2 hvinj (fun v hv => (v3 v hv).2) j2 j3 j4 (fun v hv => by obtain ⟨x, hx, _⟩ := hX v hv; exact ⟨x, hx⟩)
     have := hend w (fun t => (a.tmps[t]?).getD undef) j1 (allP.of fun v hv => by obtain ⟨x, hx, hp⟩ := hX v hv; simp only [hx, Option.getD_some]; exact hp)
     rw [← hfin, ← hops m hm] at this
     refine htail m hm ν hie (fun j hj => ?_) this
     constructor
     ·intro hl
      refine Nat.lt_of_not_le fun hc => ?_
      rw [h1 j hc] at hl; cases hl
     ·intro hl; exact hall _ _ rfl hl
    ·exfalso
     have := n6 i (List.mem_range.2 hil)
     rcases this with h | h
     ·omega
     ·have := hdep ho hp h
      rw [h1 (i - 1) (by omega)] at this; cases this
  ·have hik : i = k := by
    have h1 : ¬ i < k := fun h => by rw [(hk3 i hil).2 h] at hpi; cases hpi
    by_cases e : i = k
    ·exact e
    ·exfalso
     have := n6 i (List.mem_range.2 hil)
     rcases this with h | h
     ·omega
     ·have h2 := (hk3 (i - 1) (by omega)).1 (hdep ho hp h)
      omega
   exact htail k hk2 (by omega) hik hk3 hk4
 ·rintro listed a w hsz hall ⟨hcl, h⟩
  rcases h with ⟨h1, j1, j2, j3, j4, j5⟩ | ⟨k, hk1, hk2, hk3, hk4⟩
  ·have hms : m = ops.size := by
    rcases (by omega : m = ops.size ∨ m < ops.size) with h | h
    ·exact h
    ·have := hall m h
     rw [h1 m ν] at this; cases this
   have hX : ∀ v ∈ vs, ∃ x, a.tmps[v.slot]? = some x ∧ v.P x w := fun v hv => j5 v hv (hall _ (by have := (v3 v hv).1; omega))
   have hfin := Ze2 hvinj (fun v hv => (v3 v hv).2) j2 j3 j4 (fun v hv => by obtain ⟨x, hx, _⟩ := hX v hv; exact ⟨x, hx⟩)
   have := hend w (fun t => (a.tmps[t]?).getD undef) j1 (allP.of fun v hv => by obtain ⟨x, hx, hp⟩ := hX v hv; simp only [hx, Option.getD_some]; exact hp)
   rw [← hfin, List.drop_eq_nil_of_le (by simp; omega)] at this
   exact this
  ·have hke : k = ops.size := by
    rcases (by omega : k = ops.size ∨ k < ops.size) with h | h
    ·exact h
    ·have := (hk3 k h).1 (hall k h); omega
   rw [hke, Nat.sub_self] at hk4
   exact hk4
 ·refine ⟨fun i o ho hl => ?_, (.inl ⟨fun i _ => ?_, hE0 _, rfl, rfl, fun _ _ => rfl, fun v hv h => ?_⟩)⟩
  ·exfalso; revert hl; simp only [Array.getD]; split <;> simp
  ·simp only [Array.getD]; split <;> simp
  ·exfalso; revert h; simp only [Array.getD]; split <;> simp
theorem Za2 {b : Frame} {a : Act} {k : List Item} {cs : List Frame} {w : World} {c : Code} : step P (lone (b.atR a (.code (.scope c) :: k)) cs w) = .next (lone (b.atR a (.code c :: .inScope c :: k)) cs w) :=
 step_lone_go (by simp [stepG, stepG.exec, Frame.atR])
theorem Zem {b : Frame} {a : Act} {k : List Item} {cs : List Frame} {w : World} {c : Code} : step P (lone (b.atR a (.inScope c :: k)) cs w) = .next (lone (b.atR a k) cs w) :=
 step_lone_go (by simp [stepG, stepG.exec, Frame.atR])
theorem ZaD {F : Fence} {a : Act} {w : World} {c : Code} (h : c.wpIn F n P (Exit.noGoto Q) a w) : (Code.scope c).wpIn F n P Q a w := by
 intro b k cs hro hb hr
 have h0 : (lone (b.atR a (.code (.scope c) :: k)) cs w).fenced P F := fenced_calm hb hr rfl
 obtain ⟨e, a₁, w₁, hq, harr⟩ := h b (.inScope c :: k) cs hro hb hr
 cases e with
 | normal => exact ⟨.normal, a₁, w₁, hq, .head h0 Za2 (StepsIn.trans harr (.one (fenced_calm hb hr rfl) Zem))⟩
 | exit id => exact ⟨.exit id, a₁, w₁, hq, fun k' hk => .head h0 Za2 (harr.1 k' (by simp [exitTo, hk])), fun hr' hk => let ⟨k₁, h1, h2⟩ := harr.2 hr' (by simp [exitTo, hk]); ⟨k₁, h1, .head h0 Za2 h2⟩⟩
 | goto l => exact hq.elim
 | ret => exact ⟨_, a₁, w₁, hq, .of_steps (.one h0 Za2) harr⟩
 | panic ch => exact ⟨_, a₁, w₁, hq, .of_steps (.one h0 Za2) harr⟩
 | outgrown => exact ⟨_, a₁, w₁, hq, .of_steps (.one h0 Za2) harr⟩
end
section
variable {P : Program} {ops : Array Oper} {Q : Exit → Act → World → Prop} {md : Region.Mode} {S : World → Prop} {i : Nat} {o : Oper} {v : Value} {fuel : Nat} {listed : Array Bool} {a a' : Act} {w : World} {K : Act → World → Prop}
theorem tk (i : Nat) (hS : S w) (h : wpAnyH P md ops Q S fuel (listed.setIfInBounds i true) a' w) (hi : ops[i]? = some o := by simp only [List.getElem?_toArray, List.getElem?_cons_succ, List.getElem?_cons_zero]; rfl)
  (hs : Region.noSelect ops = true := by kernel_rfl) (hf : Region.free md ops listed i = true := by kernel_rfl) (hr : (Region.ready md ops listed).contains i = true := by kernel_rfl)
  (hQ : ∀ c a w, Q (.panic c) (a.put o.dst v) w → Q (.panic c) a w := by intro _ _ _ h; exact h) (hw : Region.wanted o (yielded ops a.tmps) = true := by rfl)
  (hy : ∀ w, S w → (execOp a.eval o).run P w = .ok (.value v) w := by intro w hSw; (try dsimp only at hSw); go_simp; try with_reducible rfl)
  (ha : a.put o.dst v = a' := by (try simp only [Act.put, List.setIfInBounds_toArray, List.set_cons_zero, List.set_cons_succ]); rfl) : wpAnyH P md ops Q S (fuel + 1) listed a w := by
 subst ha; exact wpAnyH_take hi hs hf hr hQ (Or.inl ⟨hw, hy⟩) hS h
theorem tg (i : Nat) (hS : S w) (h : wpAnyH P md ops Q S fuel (listed.setIfInBounds i true) a' w) (hi : ops[i]? = some o := by simp only [List.getElem?_toArray, List.getElem?_cons_succ, List.getElem?_cons_zero]; rfl)
  (hs : Region.noSelect ops = true := by kernel_rfl) (hf : Region.free md ops listed i = true := by kernel_rfl) (hr : (Region.ready md ops listed).contains i = true := by kernel_rfl)
  (hQ : ∀ c a w, Q (.panic c) (a.put o.dst undef) w → Q (.panic c) a w := by intro _ _ _ h; exact h) (hw : Region.wanted o (yielded ops a.tmps) = false := by rfl)
  (ha : a.put o.dst undef = a' := by (try simp only [Act.put, List.setIfInBounds_toArray, List.set_cons_zero, List.set_cons_succ]); rfl) : wpAnyH P md ops Q S (fuel + 1) listed a w := by
 subst ha; exact wpAnyH_take hi hs hf hr hQ (Or.inr ⟨hw, rfl⟩) hS h
theorem cl (i : Nat) (h : ∀ K' : Act → World → Prop, Shut (∀ a w, S w → (S w → wpAnyH P md ops Q S fuel (listed.setIfInBounds i true) a w) → K' a w) → if Region.wanted o (yielded ops a.tmps) = true then Oper.wp P o a w K' Q else K' (a.put o.dst undef) w) (hr : Region.ready md ops listed = [i] := by kernel_rfl)
  (ho : ops[i]? = some o := by simp only [List.getElem?_toArray, List.getElem?_cons_succ, List.getElem?_cons_zero]; rfl) : wpAnyH P md ops Q S (fuel + 1) listed a w :=
 wpAnyH_ready hr (by simp) (AllReadyH.cons ho h AllReadyH.nil)
theorem oP (h : ∀ K' : Act → World → Prop, Hid (∀ a w, K a w → K' a w) → if Region.wanted o (yielded ops a.tmps) = true then Oper.wp P o a w K' Q else K' (a.put o.dst undef) w) (ho : ops[i]? = some o := by simp only [List.getElem?_toArray, List.getElem?_cons_succ, List.getElem?_cons_zero]; rfl) : Zcy P ops Q i K a w :=
 Zgy ho (fun K' h' => h K' (η h'))
theorem oQ (h : ∀ K' : Act → World → Prop, Hid (∀ a w, K a w → K' a w) → if Region.wanted o (yielded ops a.tmps) = true then Oper.wp P o a w K' Q else K' (a.put o.dst undef) w) (ho : ops[i]? = some o := by simp only [List.getElem?_toArray, List.getElem?_cons_succ, List.getElem?_cons_zero]; rfl) : wpOp P ops Q i K a w :=
 wpOp_step ho (fun K' h' => h K' (η h'))
end
def Q0 : Nat → Option Addr × Nat × Nat := fun _ => (none, 0, 0)
def hlR (op : Int) (n : Nat) : Int := if op = 4 then 2 + n else 4 + n
set_option maxRecDepth 100000 in
theorem Zjx {p : Int} (h0 : 0 ≤ p) (h1 : p ≤ 4096) : bits .or .i64 (p % 256) (p / 256 * 256) = p := by
 have h : ∀ m : Fin 4097, bits .or .i64 (((m : Nat) : Int) % 256) (((m : Nat) : Int) / 256 * 256) = ((m : Nat) : Int) := by decide +kernel
 have := h ⟨p.toNat, by omega⟩
 rw [show ((p.toNat : Nat) : Int) = p by omega] at this
 exact this
set_option maxRecDepth 100000 in
theorem ZaV (op p : Int) (hop : OpP op p) (n : Nat) (d : Nat → Bool) (v : Nat → Int) (ho : OkK n v) (rest : List Int) (A : Option Addr) (N c : Nat) (w : World) (hN : (hdrB op n d v p ++ rest).length = N) (hb : By w A c (hdrB op n d v p ++ rest)) :
  Calls Tryz.prog 78 #[.slice A N c] w fun e w' => (∃ g rc, e = .returned (.tuple #[.agg #[.int .i64 op, .int .i64 0, .slice (some ⟨g, 0, none⟩) n rc, .int .i64 p], .int .i64 (hlR op n), .int .i64 0]) ∧ w.heap.size ≤ g ∧ Rgs w' (some ⟨g, 0, none⟩) n rc d v Q0) ∧ Below w.heap.size w w' := by
 obtain ⟨i0, hi0, hz0, hz1, hz2⟩ := info_parts ZeY
 have HO := η ho
 have HOP := hop
 have h1 := ho.pos
 have h2 := ho.le
 obtain ⟨b, off, rfl, hbl, hcb⟩ := hb.at_ (by simp [hdrB])
 have hmx := hb.cap; have hm2 := hb.max
 rw [hN] at hmx
 unfold maxLen at hm2
 have HBL := η hbl; clear hb ho
 rcases hop with ⟨h, h'⟩ | ⟨h, hp1, hp2⟩
 ·subst h; subst h'
  have HN := η hN
  have hn2 : (rest.length + n + 2 : Nat) = N := by rw [← hN]; simp [hdrB, ptsN, Jn]; omega
  have q0 := hcb 0 4 (by simp [hdrB])
  have q1 := hcb 1 (n : Int) (by simp [hdrB])
  have HQC := η (show ∀ i, i < n → w.cell? ⟨b, off + 2 + i, none⟩ = some (.int .u8 (codB d v i)) from fun i hi => by
   have := hcb (i + 2) (codB d v i) (by simp [hdrB]; rw [List.getElem?_append_left (by rw [Jn]; omega)]; exact ZcT d v n i hi)
   rw [show off + 2 + i = off + (i + 2) by omega]; exact this)
  rw [Nat.add_zero] at q0
  clear hcb hN
  go_enter Tryz.func78, Tryz.ntmps78
  go_wp2_with fail
  refine wp_scope_straight ?_
  go_wp2_with fail
  clear q0 q1
  have HZ0 := η (show Bx ((w.alloc (.cells #[.int .i64 0, .int .i64 0, .slice none 0 0, .int .i64 0] 28)).alloc (.cells #[.int .i64 4, .int .i64 0, .slice none 0 0, .int .i64 0] 28)) w.heap.size #[.int .i64 0, .int .i64 0, .slice none 0 0, .int .i64 0] 28 from (Bx.new _ _ _).alloc _)
  have HZ1 := η (show Bx ((w.alloc (.cells #[.int .i64 0, .int .i64 0, .slice none 0 0, .int .i64 0] 28)).alloc (.cells #[.int .i64 4, .int .i64 0, .slice none 0 0, .int .i64 0] 28)) (w.heap.size + 1) #[.int .i64 4, .int .i64 0, .slice none 0 0, .int .i64 0] 28 from Jb (by simp))
  have HB1 := η (show Below w.heap.size w ((w.alloc (.cells #[.int .i64 0, .int .i64 0, .slice none 0 0, .int .i64 0] 28)).alloc (.cells #[.int .i64 4, .int .i64 0, .slice none 0 0, .int .i64 0] 28)) from J8 (J8 J0))
  generalize ((w.alloc (.cells #[.int .i64 0, .int .i64 0, .slice none 0 0, .int .i64 0] 28)).alloc (.cells #[.int .i64 4, .int .i64 0, .slice none 0 0, .int .i64 0] 28)) = w1 at *
  rw [show 2 + n - 2 = n from by omega]
  go_loopw [63] (fun ir wr => ∃ (k : Nat) (vr : Value), k ≤ n ∧ ir = .int .i64 (k : Int) ∧ Bx wr (w.heap.size + 1) #[.int .i64 4, .int .i64 0, vr, .int .i64 0] 28 ∧ OwR wr w.heap.size vr k d v Q0 ∧ Bx wr w.heap.size #[.int .i64 0, .int .i64 0, .slice none 0 0, .int .i64 0] 28 ∧ Below w.heap.size w wr) (fun i _ => n - (intOf i).toNat)
  case atStart => exact ⟨0, _, by omega, rfl, HZ1.out, OwR.nil _ _ _ _ _, HZ0.out, HB1.out⟩
  case round =>
   obtain ⟨k, vr, hk, rfl, hx, how, hz, hb⟩ := hrel
   have HB := η hb; have HXR := η hx; have HZR := η hz; have HOW := η how; clear hb hx hz how
   by_cases hlt : k < n
   ·have qk : wr.cell? ⟨b, off + 2 + k, none⟩ = some (.int .u8 (codB d v k)) := (HB.out.cell (p := ⟨b, off + 2 + k, none⟩) HBL.out).trans (HQC.out k hlt)
    have c2 := HXR.out.cell 2 (v := vr) rfl
    have HRG := η (HO.out.range hlt)
    have eg := Zg8 (d := d) HRG.out.1 HRG.out.2.1
    have ec := ZeZ (d := d) HRG.out.1 HRG.out.2.1
    have ew : IntKind.i64.wrap (v k) = v k := by have := HRG.out; rw [IntKind.wrap_i64]; omega
    have hsz := HB.out.size
    have hxlt := HXR.out.lt
    have hms := η (show n - (intOf (.int .i64 ((k : Int) + 1))).toNat < n - (intOf (.int .i64 (k : Int))).toNat from by simp [intOf]; omega)
    go_wp2_with (at_builtin; refine wpList_append_own _ rfl _ _ 26 rfl w.heap.size 48 i0 (.agg #[.bool false, .int .i64 0, .slice none 0 0]) 3 40 Tryz.underlying26 hi0 hz0 hz1 hz2 rfl (by decide) _ _ _ rfl (HOW.out.alloc (.cells #[.bool (d k), .int .i64 (v k), .slice none 0 0] 48)) ⟨wr.heap.size, 0, none⟩ 1 1 [.bool (d k), .int .i64 (v k), .slice none 0 0] rfl rfl ?c1 ?c2 ?c3 ?c4 ?c5 ?_)
    case c1 => exact Zab (by simp) _ _ _ _
    case c2 => simp [Value.oneCell']
    case c3 => skip; unfold maxLen; omega
    case c4 => skip; omega
    case c5 => (simp; omega)
    intro v' w' hown2 hgrow _
    have HX9 := η (show Bx w' (w.heap.size + 1) #[.int .i64 4, .int .i64 0, vr, .int .i64 0] 28 from JV (HXR.out.alloc (.cells #[.bool (d k), .int .i64 (v k), .slice none 0 0] 48)) (by decide) hgrow (HOW.out.alloc (.cells #[.bool (d k), .int .i64 (v k), .slice none 0 0] 48)))
    have HZ9 := η (show Bx w' w.heap.size #[.int .i64 0, .int .i64 0, .slice none 0 0, .int .i64 0] 28 from JV (HZR.out.alloc (.cells #[.bool (d k), .int .i64 (v k), .slice none 0 0] 48)) (by decide) hgrow (HOW.out.alloc (.cells #[.bool (d k), .int .i64 (v k), .slice none 0 0] 48)))
    have HB9 := η (show Below w.heap.size w w' from ZaA (HB.out.alloc hsz (.cells #[.bool (d k), .int .i64 (v k), .slice none 0 0] 48)) (Nat.le_trans hsz (by simp)) ν hgrow (HOW.out.alloc (.cells #[.bool (d k), .int .i64 (v k), .slice none 0 0] 48)))
    obtain ⟨g2, cap2, rfl, -, -⟩ := hown2.form (by omega)
    have HO9 := η (show OwR w' w.heap.size (.slice (some ⟨g2, 0, none⟩) (k + 1) cap2) (k + 1) d v Q0 from OwR.snoc hown2 rfl)
    clear hown2 hgrow c2 qk eg ec ew hsz hxlt HXR HZR HB HOW
    have c2 := HX9.out.cell 2 (v := vr) rfl
    have z2 := HX9.out.free 2
    go_wp2_with fail
    go_roundw
    case rel =>
     exact ⟨k + 1, _, hlt, by go_num, HX9.out.set 2 _, HO9.out.setOther HX9.out (by decide), HZ9.out.other (a := ⟨w.heap.size + 1, 2, none⟩) _ (by simp), J9 (Nat.le_succ _) HB9.out⟩
    case measure => exact hms.out
   ·obtain rfl : k = n := by omega
    obtain ⟨g, rc, rfl, hg, hrg, cur, hcur⟩ := HOW.out.rgs (by omega) (fun i hi => by have := HO.out.range hi; unfold IsI; omega)
    have HRG := η hrg; have HG := η hg; have HGN := η (show g ≠ w.heap.size ∧ g ≠ w.heap.size + 1 from ⟨Zaa hcur HZR.out (by decide), Zaa hcur HXR.out (by decide)⟩); clear hg hrg HOW hcur
    have c0 := HXR.out.cell 0 (v := .int .i64 4) rfl; have c1 := HXR.out.cell 1 (v := .int .i64 0) rfl; have c2 := HXR.out.cell 2 (v := .slice (some ⟨g, 0, none⟩) k rc) rfl; have c3 := HXR.out.cell 3 (v := .int .i64 0) rfl
    go_wp2_with fail
    clear c0 c1 c2 c3
    refine (Za1 110 (some ⟨g, 0, none⟩) k rc d v Q0 (by omega) (noKP HO.out) _ HRG.out).mono ?_
    rintro e w5 ⟨rfl, B⟩
    have HX5 := η (HXR.out.below B ν); have HZ5 := η (HZR.out.below B ν); have HR5 := η (HRG.out.below B ν); have HB5 := η (HB.out.trans (B.mono HB.out.size))
    clear B HXR HZR HRG HB
    have c0 := HX5.out.cell 0 (v := .int .i64 4) rfl; have c1 := HX5.out.cell 1 (v := .int .i64 0) rfl; have c2 := HX5.out.cell 2 (v := .slice (some ⟨g, 0, none⟩) k rc) rfl; have c3 := HX5.out.cell 3 (v := .int .i64 0) rfl
    have y0 := HZ5.out.free 0; have y1 := HZ5.out.free 1; have y2 := HZ5.out.free 2; have y3 := HZ5.out.free 3
    have x0 := HZ5.out.cell 0 (v := .int .i64 0) rfl; have x1 := HZ5.out.cell 1 (v := .int .i64 0) rfl; have x2 := HZ5.out.cell 2 (v := .slice none 0 0) rfl; have x3 := HZ5.out.cell 3 (v := .int .i64 0) rfl
    have ea : IntKind.i64.wrap (2 + (k : Int)) = 2 + (k : Int) := by rw [IntKind.wrap_i64]; omega
    go_wp2_with fail
    have HF := η (Ji (v0 := .int .i64 4) (v1 := .int .i64 0) (v2 := .slice (some ⟨g, 0, none⟩) k rc) (v3 := .int .i64 0) HZ5.out)
    have r0 := HF.out.cell 0 (v := .int .i64 4) rfl; have r1 := HF.out.cell 1 (v := .int .i64 0) rfl; have r2 := HF.out.cell 2 (v := .slice (some ⟨g, 0, none⟩) k rc) rfl; have r3 := HF.out.cell 3 (v := .int .i64 0) rfl
    have HR9 := η ((((HR5.out.setFar (i := 0) (x := .int .i64 4) HGN.out.1).setFar (i := 1) (x := .int .i64 0) HGN.out.1).setFar (i := 2) (x := .slice (some ⟨g, 0, none⟩) k rc) HGN.out.1).setFar (i := 3) (x := .int .i64 0) HGN.out.1)
    have HB9 := η (show Below w.heap.size w ((((w5.setCell ⟨w.heap.size, 0, none⟩ (.int .i64 4)).setCell ⟨w.heap.size, 1, none⟩ (.int .i64 0)).setCell ⟨w.heap.size, 2, none⟩ (.slice (some ⟨g, 0, none⟩) k rc)).setCell ⟨w.heap.size, 3, none⟩ (.int .i64 0)) from J9 ν (J9 ν (J9 ν (J9 ν HB5.out))))
    clear c0 c1 c2 c3 x0 x1 x2 x3 y0 y1 y2 y3
    generalize ((((w5.setCell ⟨w.heap.size, 0, none⟩ (.int .i64 4)).setCell ⟨w.heap.size, 1, none⟩ (.int .i64 0)).setCell ⟨w.heap.size, 2, none⟩ (.slice (some ⟨g, 0, none⟩) k rc)).setCell ⟨w.heap.size, 3, none⟩ (.int .i64 0)) = w9 at *
    rw [Exit.noGoto_ret]
    refine bodyPost_ret (v := .tuple #[.agg #[.int .i64 4, .int .i64 0, .slice (some ⟨g, 0, none⟩) k rc, .int .i64 0], .int .i64 (2 + k), .int .i64 0]) (by simp [results, Tryz.results78, go_sem, r0, r1, r2, r3]) rfl ⟨⟨g, rc, by simp [hlR], HG.out, HR9.out⟩, HB9.out⟩
 ·subst h
  have HN := η hN
  have hn2 : (rest.length + n + 4 : Nat) = N := by rw [← hN]; simp [hdrB, ptsN, Jn]; omega
  have q0 := hcb 0 5 (by simp [hdrB])
  have q1 := hcb 1 (n : Int) (by simp [hdrB])
  have HQC := η (show ∀ i, i < n → w.cell? ⟨b, off + 2 + i, none⟩ = some (.int .u8 (codB d v i)) from fun i hi => by
   have := hcb (i + 2) (codB d v i) (by simp [hdrB]; rw [List.getElem?_append_left (by rw [Jn]; omega)]; exact ZcT d v n i hi)
   rw [show off + 2 + i = off + (i + 2) by omega]; exact this)
  have HQ5 := η (show w.cell? ⟨b, off + 2 + n, none⟩ = some (.int .u8 (p % 256)) ∧ w.cell? ⟨b, off + 3 + n, none⟩ = some (.int .u8 (p / 256)) from by
   have ha := hcb (n + 2) (p % 256) (by simp [hdrB, ptsN]; rw [List.getElem?_append_right (by rw [Jn]; omega), Jn]; simp)
   have hb := hcb (n + 3) (p / 256) (by simp [hdrB, ptsN]; rw [List.getElem?_append_right (by rw [Jn]; omega), Jn, show n + 1 - n = 1 by omega]; rfl)
   rw [show off + 2 + n = off + (n + 2) by omega, show off + 3 + n = off + (n + 3) by omega]; exact ⟨ha, hb⟩)
  rw [Nat.add_zero] at q0
  clear hcb hN
  go_enter Tryz.func78, Tryz.ntmps78
  go_wp2_with fail
  refine wp_scope_straight ?_
  go_wp2_with fail
  clear q0 q1
  have HZ0 := η (show Bx ((w.alloc (.cells #[.int .i64 0, .int .i64 0, .slice none 0 0, .int .i64 0] 28)).alloc (.cells #[.int .i64 5, .int .i64 0, .slice none 0 0, .int .i64 0] 28)) w.heap.size #[.int .i64 0, .int .i64 0, .slice none 0 0, .int .i64 0] 28 from (Bx.new _ _ _).alloc _)
  have HZ1 := η (show Bx ((w.alloc (.cells #[.int .i64 0, .int .i64 0, .slice none 0 0, .int .i64 0] 28)).alloc (.cells #[.int .i64 5, .int .i64 0, .slice none 0 0, .int .i64 0] 28)) (w.heap.size + 1) #[.int .i64 5, .int .i64 0, .slice none 0 0, .int .i64 0] 28 from Jb (by simp))
  have HB1 := η (show Below w.heap.size w ((w.alloc (.cells #[.int .i64 0, .int .i64 0, .slice none 0 0, .int .i64 0] 28)).alloc (.cells #[.int .i64 5, .int .i64 0, .slice none 0 0, .int .i64 0] 28)) from J8 (J8 J0))
  generalize ((w.alloc (.cells #[.int .i64 0, .int .i64 0, .slice none 0 0, .int .i64 0] 28)).alloc (.cells #[.int .i64 5, .int .i64 0, .slice none 0 0, .int .i64 0] 28)) = w1 at *
  rw [show 2 + n - 2 = n from by omega]
  go_loopw [63] (fun ir wr => ∃ (k : Nat) (vr : Value), k ≤ n ∧ ir = .int .i64 (k : Int) ∧ Bx wr (w.heap.size + 1) #[.int .i64 5, .int .i64 0, vr, .int .i64 0] 28 ∧ OwR wr w.heap.size vr k d v Q0 ∧ Bx wr w.heap.size #[.int .i64 0, .int .i64 0, .slice none 0 0, .int .i64 0] 28 ∧ Below w.heap.size w wr) (fun i _ => n - (intOf i).toNat)
  case atStart => exact ⟨0, _, by omega, rfl, HZ1.out, OwR.nil _ _ _ _ _, HZ0.out, HB1.out⟩
  case round =>
   obtain ⟨k, vr, hk, rfl, hx, how, hz, hb⟩ := hrel
   have HB := η hb; have HXR := η hx; have HZR := η hz; have HOW := η how; clear hb hx hz how
   by_cases hlt : k < n
   ·have qk : wr.cell? ⟨b, off + 2 + k, none⟩ = some (.int .u8 (codB d v k)) := (HB.out.cell (p := ⟨b, off + 2 + k, none⟩) HBL.out).trans (HQC.out k hlt)
    have c2 := HXR.out.cell 2 (v := vr) rfl
    have HRG := η (HO.out.range hlt)
    have eg := Zg8 (d := d) HRG.out.1 HRG.out.2.1
    have ec := ZeZ (d := d) HRG.out.1 HRG.out.2.1
    have ew : IntKind.i64.wrap (v k) = v k := by have := HRG.out; rw [IntKind.wrap_i64]; omega
    have hsz := HB.out.size
    have hxlt := HXR.out.lt
    have hms := η (show n - (intOf (.int .i64 ((k : Int) + 1))).toNat < n - (intOf (.int .i64 (k : Int))).toNat from by simp [intOf]; omega)
    go_wp2_with (at_builtin; refine wpList_append_own _ rfl _ _ 26 rfl w.heap.size 48 i0 (.agg #[.bool false, .int .i64 0, .slice none 0 0]) 3 40 Tryz.underlying26 hi0 hz0 hz1 hz2 rfl (by decide) _ _ _ rfl (HOW.out.alloc (.cells #[.bool (d k), .int .i64 (v k), .slice none 0 0] 48)) ⟨wr.heap.size, 0, none⟩ 1 1 [.bool (d k), .int .i64 (v k), .slice none 0 0] rfl rfl ?c1 ?c2 ?c3 ?c4 ?c5 ?_)
    case c1 => exact Zab (by simp) _ _ _ _
    case c2 => simp [Value.oneCell']
    case c3 => skip; unfold maxLen; omega
    case c4 => skip; omega
    case c5 => (simp; omega)
    intro v' w' hown2 hgrow _
    have HX9 := η (show Bx w' (w.heap.size + 1) #[.int .i64 5, .int .i64 0, vr, .int .i64 0] 28 from JV (HXR.out.alloc (.cells #[.bool (d k), .int .i64 (v k), .slice none 0 0] 48)) (by decide) hgrow (HOW.out.alloc (.cells #[.bool (d k), .int .i64 (v k), .slice none 0 0] 48)))
    have HZ9 := η (show Bx w' w.heap.size #[.int .i64 0, .int .i64 0, .slice none 0 0, .int .i64 0] 28 from JV (HZR.out.alloc (.cells #[.bool (d k), .int .i64 (v k), .slice none 0 0] 48)) (by decide) hgrow (HOW.out.alloc (.cells #[.bool (d k), .int .i64 (v k), .slice none 0 0] 48)))
    have HB9 := η (show Below w.heap.size w w' from ZaA (HB.out.alloc hsz (.cells #[.bool (d k), .int .i64 (v k), .slice none 0 0] 48)) (Nat.le_trans hsz (by simp)) ν hgrow (HOW.out.alloc (.cells #[.bool (d k), .int .i64 (v k), .slice none 0 0] 48)))
    obtain ⟨g2, cap2, rfl, -, -⟩ := hown2.form (by omega)
    have HO9 := η (show OwR w' w.heap.size (.slice (some ⟨g2, 0, none⟩) (k + 1) cap2) (k + 1) d v Q0 from OwR.snoc hown2 rfl)
    clear hown2 hgrow c2 qk eg ec ew hsz hxlt HXR HZR HB HOW
    have c2 := HX9.out.cell 2 (v := vr) rfl
    have z2 := HX9.out.free 2
    go_wp2_with fail
    go_roundw
    case rel =>
     exact ⟨k + 1, _, hlt, by go_num, HX9.out.set 2 _, HO9.out.setOther HX9.out (by decide), HZ9.out.other (a := ⟨w.heap.size + 1, 2, none⟩) _ (by simp), J9 (Nat.le_succ _) HB9.out⟩
    case measure => exact hms.out
   ·obtain rfl : k = n := by omega
    obtain ⟨g, rc, rfl, hg, hrg, cur, hcur⟩ := HOW.out.rgs (by omega) (fun i hi => by have := HO.out.range hi; unfold IsI; omega)
    have HRG := η hrg; have HG := η hg; have HGN := η (show g ≠ w.heap.size ∧ g ≠ w.heap.size + 1 from ⟨Zaa hcur HZR.out (by decide), Zaa hcur HXR.out (by decide)⟩); clear hg hrg HOW hcur
    have c0 := HXR.out.cell 0 (v := .int .i64 5) rfl; have c1 := HXR.out.cell 1 (v := .int .i64 0) rfl; have c2 := HXR.out.cell 2 (v := .slice (some ⟨g, 0, none⟩) k rc) rfl; have c3 := HXR.out.cell 3 (v := .int .i64 0) rfl
    go_wp2_with fail
    clear c0 c1 c2 c3
    refine (Za1 110 (some ⟨g, 0, none⟩) k rc d v Q0 (by omega) (noKP HO.out) _ HRG.out).mono ?_
    rintro e w5 ⟨rfl, B⟩
    have HX5 := η (HXR.out.below B ν); have HZ5 := η (HZR.out.below B ν); have HR5 := η (HRG.out.below B ν); have HB5 := η (HB.out.trans (B.mono HB.out.size))
    clear B HXR HZR HRG HB
    have c0 := HX5.out.cell 0 (v := .int .i64 5) rfl; have c1 := HX5.out.cell 1 (v := .int .i64 0) rfl; have c2 := HX5.out.cell 2 (v := .slice (some ⟨g, 0, none⟩) k rc) rfl; have c3 := HX5.out.cell 3 (v := .int .i64 0) rfl
    have y0 := HZ5.out.free 0; have y1 := HZ5.out.free 1; have y2 := HZ5.out.free 2; have y3 := HZ5.out.free 3
    have x0 := HZ5.out.cell 0 (v := .int .i64 0) rfl; have x1 := HZ5.out.cell 1 (v := .int .i64 0) rfl; have x2 := HZ5.out.cell 2 (v := .slice none 0 0) rfl; have x3 := HZ5.out.cell 3 (v := .int .i64 0) rfl
    have ea : IntKind.i64.wrap (2 + (k : Int)) = 2 + (k : Int) := by rw [IntKind.wrap_i64]; omega
    go_wp2_with fail
    have HQ6 := η (show w5.cell? ⟨b, off + (2 + k), none⟩ = some (.int .u8 (p % 256)) ∧ w5.cell? ⟨b, off + (3 + k), none⟩ = some (.int .u8 (p / 256)) from by
     rw [show off + (2 + k) = off + 2 + k by omega, show off + (3 + k) = off + 3 + k by omega]
     exact ⟨(HB5.out.cell (p := ⟨b, off + 2 + k, none⟩) HBL.out).trans HQ5.out.1, (HB5.out.cell (p := ⟨b, off + 3 + k, none⟩) HBL.out).trans HQ5.out.2⟩)
    clear c0 c1 c2 c3 x0 x1 x2 x3 y0 y1 y2 y3
    have t2 : (2 + (k : Int)).toNat = 2 + k := by omega
    have t3 : (3 + (k : Int)).toNat = 3 + k := by omega
    have eb : IntKind.i64.wrap (3 + (k : Int)) = 3 + (k : Int) := by rw [IntKind.wrap_i64]; omega
    have i2 : 0 ≤ 2 + (k : Int) := by omega
    have j2 : 2 + (k : Int) < N := by omega
    have i3 : 0 ≤ 3 + (k : Int) := by omega
    have j3 : 3 + (k : Int) < N := by omega
    have w1' : IntKind.i64.wrap (p % 256) = p % 256 := by rw [IntKind.wrap_i64]; omega
    have w2' : IntKind.i64.wrap (p / 256) = p / 256 := by rw [IntKind.wrap_i64]; omega
    have w3' : IntKind.i64.wrap (p / 256 * 256) = p / 256 * 256 := by rw [IntKind.wrap_i64]; omega
    have w4' := Zjx (p := p) (by omega) hp2
    have HW5 := η (show b < w5.heap.size from Nat.lt_of_lt_of_le HBL.out HB5.out.size)
    refine (wpIn_wide (n := 0)).1 ?_
    refine wpIn_region_any (by kernel_rfl) ?_
    change wpAnyIn _ _ _ _ _ _ _ _ _ (World.drew _)
    have RB5 := η (Je w5)
    refine Jk WideF.wide (fun a b => Below a.heap.size a b) (fun _ => J0) (fun _ _ _ h k => J6 h k) [⟨0, 93, fun z_ _ => z_ = .slice (some ⟨b, off, none⟩) N c⟩, ⟨1, 94, fun z_ _ => z_ = .int .i64 (k)⟩, ⟨2, 95, fun z_ _ => z_ = .int .i64 (2 + (k : Int))⟩, ⟨3, 96, fun z_ _ => z_ = .pointer (some ⟨b, off + (2 + k), none⟩)⟩, ⟨4, 97, fun z_ _ => z_ = .int .u8 (p % 256)⟩, ⟨5, 98, fun z_ _ => z_ = .int .i64 (p % 256)⟩, ⟨6, 99, fun z_ _ => z_ = .slice (some ⟨b, off, none⟩) N c⟩, ⟨7, 100, fun z_ _ => z_ = .int .i64 (k)⟩, ⟨8, 101, fun z_ _ => z_ = .int .i64 (3 + (k : Int))⟩, ⟨9, 102, fun z_ _ => z_ = .pointer (some ⟨b, off + (3 + k), none⟩)⟩, ⟨10, 103, fun z_ _ => z_ = .int .u8 (p / 256)⟩, ⟨11, 104, fun z_ _ => z_ = .int .i64 (p / 256)⟩, ⟨12, 105, fun z_ _ => z_ = .int .i64 (p / 256 * 256)⟩, ⟨13, 106, fun z_ _ => z_ = .int .i64 (p)⟩] 14 (by kernel_rfl) ?_ ?_ ?_
    ·refine ⟨?_, ?_, ?_, ?_, ?_, ?_, ?_, ?_, ?_, ?_, ?_, ?_, ?_, ?_, trivial⟩
     all_goals (intro x w w' hb h; first | exact h | (obtain ⟨b_, h1, h2⟩ := h; exact ⟨b_, h1, h2.below hb ν⟩))
    ·refine ⟨?_, ?_, ?_, ?_, ?_, ?_, ?_, ?_, ?_, ?_, ?_, ?_, ?_, ?_, trivial⟩
     ·intro a wz K hb ht hd hK
      have hbw := η (J6 RB5.out hb); clear hb
      have hx0 := (ht 0 rfl).trans rfl
      have es0 : a.tmps.getD 0 undef = _ := J7 hx0; clear hx0
      clear ht hd
      have HK := η hK; clear hK
      refine oP (fun K' HK' => ?_)
      go_simp
      exact HK'.out _ _ (HK.out _ _ J0 rfl)
     ·intro a wz K hb ht hd hK
      have hbw := η (J6 RB5.out hb); clear hb
      have hx6 := (ht 6 rfl).trans rfl
      have es6 : a.tmps.getD 6 undef = _ := J7 hx6; clear hx6
      clear ht hd
      have HK := η hK; clear hK
      refine oP (fun K' HK' => ?_)
      go_simp
      exact HK'.out _ _ (HK.out _ _ J0 rfl)
     ·intro a wz K hb ht hd hK
      have hbw := η (J6 RB5.out hb); clear hb
      obtain ⟨x94, hx94, hp94⟩ := hd 1 _ rfl (by kernel_rfl)
      obtain rfl := hp94
      have es94 : a.tmps.getD 94 undef = _ := J7 hx94; clear hx94
      clear ht hd
      have HK := η hK; clear hK
      refine oP (fun K' HK' => ?_)
      go_simp
      exact HK'.out _ _ (HK.out _ _ J0 rfl)
     ·intro a wz K hb ht hd hK
      have hbw := η (J6 RB5.out hb); clear hb
      obtain ⟨x93, hx93, hp93⟩ := hd 0 _ rfl (by kernel_rfl)
      obtain rfl := hp93
      have es93 : a.tmps.getD 93 undef = _ := J7 hx93; clear hx93
      obtain ⟨x95, hx95, hp95⟩ := hd 2 _ rfl (by kernel_rfl)
      obtain rfl := hp95
      have es95 : a.tmps.getD 95 undef = _ := J7 hx95; clear hx95
      clear ht hd
      have HK := η hK; clear hK
      refine oP (fun K' HK' => ?_)
      go_simp
      exact HK'.out _ _ (HK.out _ _ J0 rfl)
     ·intro a wz K hb ht hd hK
      have hbw := η (J6 RB5.out hb); clear hb
      obtain ⟨x96, hx96, hp96⟩ := hd 3 _ rfl (by kernel_rfl)
      obtain rfl := hp96
      have es96 : a.tmps.getD 96 undef = _ := J7 hx96; clear hx96
      clear ht hd
      have HK := η hK; clear hK
      have zq := (hbw.out.cell (p := ⟨b, off + (2 + k), none⟩) HW5.out).trans HQ6.out.1
      refine oP (fun K' HK' => ?_)
      go_simp
      exact HK'.out _ _ (HK.out _ _ J0 rfl)
     ·intro a wz K hb ht hd hK
      have hbw := η (J6 RB5.out hb); clear hb
      obtain ⟨x97, hx97, hp97⟩ := hd 4 _ rfl (by kernel_rfl)
      obtain rfl := hp97
      have es97 : a.tmps.getD 97 undef = _ := J7 hx97; clear hx97
      clear ht hd
      have HK := η hK; clear hK
      refine oP (fun K' HK' => ?_)
      go_simp
      exact HK'.out _ _ (HK.out _ _ J0 rfl)
     ·intro a wz K hb ht hd hK
      have hbw := η (J6 RB5.out hb); clear hb
      have hx0 := (ht 0 rfl).trans rfl
      have es0 : a.tmps.getD 0 undef = _ := J7 hx0; clear hx0
      clear ht hd
      have HK := η hK; clear hK
      refine oP (fun K' HK' => ?_)
      go_simp
      exact HK'.out _ _ (HK.out _ _ J0 rfl)
     ·intro a wz K hb ht hd hK
      have hbw := η (J6 RB5.out hb); clear hb
      have hx6 := (ht 6 rfl).trans rfl
      have es6 : a.tmps.getD 6 undef = _ := J7 hx6; clear hx6
      clear ht hd
      have HK := η hK; clear hK
      refine oP (fun K' HK' => ?_)
      go_simp
      exact HK'.out _ _ (HK.out _ _ J0 rfl)
     ·intro a wz K hb ht hd hK
      have hbw := η (J6 RB5.out hb); clear hb
      obtain ⟨x100, hx100, hp100⟩ := hd 7 _ rfl (by kernel_rfl)
      obtain rfl := hp100
      have es100 : a.tmps.getD 100 undef = _ := J7 hx100; clear hx100
      clear ht hd
      have HK := η hK; clear hK
      refine oP (fun K' HK' => ?_)
      go_simp
      exact HK'.out _ _ (HK.out _ _ J0 rfl)
     ·intro a wz K hb ht hd hK
      have hbw := η (J6 RB5.out hb); clear hb
      obtain ⟨x99, hx99, hp99⟩ := hd 6 _ rfl (by kernel_rfl)
      obtain rfl := hp99
      have es99 : a.tmps.getD 99 undef = _ := J7 hx99; clear hx99
      obtain ⟨x101, hx101, hp101⟩ := hd 8 _ rfl (by kernel_rfl)
      obtain rfl := hp101
      have es101 : a.tmps.getD 101 undef = _ := J7 hx101; clear hx101
      clear ht hd
      have HK := η hK; clear hK
      refine oP (fun K' HK' => ?_)
      go_simp
      exact HK'.out _ _ (HK.out _ _ J0 rfl)
     ·intro a wz K hb ht hd hK
      have hbw := η (J6 RB5.out hb); clear hb
      obtain ⟨x102, hx102, hp102⟩ := hd 9 _ rfl (by kernel_rfl)
      obtain rfl := hp102
      have es102 : a.tmps.getD 102 undef = _ := J7 hx102; clear hx102
      clear ht hd
      have HK := η hK; clear hK
      have zq := (hbw.out.cell (p := ⟨b, off + (3 + k), none⟩) HW5.out).trans HQ6.out.2
      refine oP (fun K' HK' => ?_)
      go_simp
      exact HK'.out _ _ (HK.out _ _ J0 rfl)
     ·intro a wz K hb ht hd hK
      have hbw := η (J6 RB5.out hb); clear hb
      obtain ⟨x103, hx103, hp103⟩ := hd 10 _ rfl (by kernel_rfl)
      obtain rfl := hp103
      have es103 : a.tmps.getD 103 undef = _ := J7 hx103; clear hx103
      clear ht hd
      have HK := η hK; clear hK
      refine oP (fun K' HK' => ?_)
      go_simp
      exact HK'.out _ _ (HK.out _ _ J0 rfl)
     ·intro a wz K hb ht hd hK
      have hbw := η (J6 RB5.out hb); clear hb
      obtain ⟨x104, hx104, hp104⟩ := hd 11 _ rfl (by kernel_rfl)
      obtain rfl := hp104
      have es104 : a.tmps.getD 104 undef = _ := J7 hx104; clear hx104
      clear ht hd
      have HK := η hK; clear hK
      refine oP (fun K' HK' => ?_)
      go_simp
      exact HK'.out _ _ (HK.out _ _ J0 rfl)
     ·intro a wz K hb ht hd hK
      have hbw := η (J6 RB5.out hb); clear hb
      obtain ⟨x98, hx98, hp98⟩ := hd 5 _ rfl (by kernel_rfl)
      obtain rfl := hp98
      have es98 : a.tmps.getD 98 undef = _ := J7 hx98; clear hx98
      obtain ⟨x105, hx105, hp105⟩ := hd 12 _ rfl (by kernel_rfl)
      obtain rfl := hp105
      have es105 : a.tmps.getD 105 undef = _ := J7 hx105; clear hx105
      clear ht hd
      have HK := η hK; clear hK
      refine oP (fun K' HK' => ?_)
      go_simp
      exact HK'.out _ _ (HK.out _ _ J0 rfl)
    intro w6 X hb hv
    simp only [List.foldl_cons, List.foldl_nil, Act.put, List.setIfInBounds_toArray, List.set_cons_zero, List.set_cons_succ, List.toList_toArray, List.drop_succ_cons, List.drop_zero]
    obtain ⟨hv0, hv1, hv2, hv3, hv4, hv5, hv6, hv7, hv8, hv9, hv10, hv11, hv12, hv13, -⟩ := hv
    have hV0 : (fun z_ _ => z_ = .slice (some ⟨b, off, none⟩) N c) (X 93) w6 := hv0; clear hv0; have hv0 := hV0; clear hV0; generalize X 93 = X93 at *
    have hV1 : (fun z_ _ => z_ = .int .i64 (k)) (X 94) w6 := hv1; clear hv1; have hv1 := hV1; clear hV1; generalize X 94 = X94 at *
    have hV2 : (fun z_ _ => z_ = .int .i64 (2 + (k : Int))) (X 95) w6 := hv2; clear hv2; have hv2 := hV2; clear hV2; generalize X 95 = X95 at *
    have hV3 : (fun z_ _ => z_ = .pointer (some ⟨b, off + (2 + k), none⟩)) (X 96) w6 := hv3; clear hv3; have hv3 := hV3; clear hV3; generalize X 96 = X96 at *
    have hV4 : (fun z_ _ => z_ = .int .u8 (p % 256)) (X 97) w6 := hv4; clear hv4; have hv4 := hV4; clear hV4; generalize X 97 = X97 at *
    have hV5 : (fun z_ _ => z_ = .int .i64 (p % 256)) (X 98) w6 := hv5; clear hv5; have hv5 := hV5; clear hV5; generalize X 98 = X98 at *
    have hV6 : (fun z_ _ => z_ = .slice (some ⟨b, off, none⟩) N c) (X 99) w6 := hv6; clear hv6; have hv6 := hV6; clear hV6; generalize X 99 = X99 at *
    have hV7 : (fun z_ _ => z_ = .int .i64 (k)) (X 100) w6 := hv7; clear hv7; have hv7 := hV7; clear hV7; generalize X 100 = X100 at *
    have hV8 : (fun z_ _ => z_ = .int .i64 (3 + (k : Int))) (X 101) w6 := hv8; clear hv8; have hv8 := hV8; clear hV8; generalize X 101 = X101 at *
    have hV9 : (fun z_ _ => z_ = .pointer (some ⟨b, off + (3 + k), none⟩)) (X 102) w6 := hv9; clear hv9; have hv9 := hV9; clear hV9; generalize X 102 = X102 at *
    have hV10 : (fun z_ _ => z_ = .int .u8 (p / 256)) (X 103) w6 := hv10; clear hv10; have hv10 := hV10; clear hV10; generalize X 103 = X103 at *
    have hV11 : (fun z_ _ => z_ = .int .i64 (p / 256)) (X 104) w6 := hv11; clear hv11; have hv11 := hV11; clear hV11; generalize X 104 = X104 at *
    have hV12 : (fun z_ _ => z_ = .int .i64 (p / 256 * 256)) (X 105) w6 := hv12; clear hv12; have hv12 := hV12; clear hV12; generalize X 105 = X105 at *
    have hV13 : (fun z_ _ => z_ = .int .i64 (p)) (X 106) w6 := hv13; clear hv13; have hv13 := hV13; clear hV13; generalize X 106 = X106 at *
    obtain rfl := hv0
    obtain rfl := hv1
    obtain rfl := hv2
    obtain rfl := hv3
    obtain rfl := hv4
    obtain rfl := hv5
    obtain rfl := hv6
    obtain rfl := hv7
    obtain rfl := hv8
    obtain rfl := hv9
    obtain rfl := hv10
    obtain rfl := hv11
    obtain rfl := hv12
    obtain rfl := hv13
    have RC := η (J6 RB5.out hb); clear hb
    have FX_6 := η (HX5.out.below RC.out ν)
    have FZ_6 := η (HZ5.out.below RC.out ν)
    have FR_6 := η (HR5.out.below RC.out ν)
    have HB6 := η (HB5.out.trans (RC.out.mono HB5.out.size))
    clear HB5 HX5 HZ5 HR5 RB5
    have c3 := FX_6.out.cell 3 (v := .int .i64 0) rfl; have z3 := FX_6.out.free 3
    gi_wp2_with fail
    clear c3 z3
    have HX8 := η (show Bx (w6.setCell ⟨w.heap.size + 1, 3, none⟩ (.int .i64 p)) (w.heap.size + 1) #[.int .i64 5, .int .i64 0, .slice (some ⟨g, 0, none⟩) k rc, .int .i64 p] 28 from FX_6.out.set 3 _)
    have HZ8 := η (show Bx (w6.setCell ⟨w.heap.size + 1, 3, none⟩ (.int .i64 p)) w.heap.size #[.int .i64 0, .int .i64 0, .slice none 0 0, .int .i64 0] 28 from FZ_6.out.other (a := ⟨w.heap.size + 1, 3, none⟩) _ (by simp))
    have HR8 := η (show Rgs (w6.setCell ⟨w.heap.size + 1, 3, none⟩ (.int .i64 p)) (some ⟨g, 0, none⟩) k rc d v Q0 from FR_6.out.setFar HGN.out.2)
    have HB8 := η (show Below w.heap.size w (w6.setCell ⟨w.heap.size + 1, 3, none⟩ (.int .i64 p)) from J9 (Nat.le_succ _) HB6.out)
    clear FX_6 FZ_6 FR_6 HB6
    generalize (w6.setCell ⟨w.heap.size + 1, 3, none⟩ (.int .i64 p)) = w8 at *
    have c0 := HX8.out.cell 0 (v := .int .i64 5) rfl; have c1 := HX8.out.cell 1 (v := .int .i64 0) rfl; have c2 := HX8.out.cell 2 (v := .slice (some ⟨g, 0, none⟩) k rc) rfl; have c3 := HX8.out.cell 3 (v := .int .i64 p) rfl
    have y0 := HZ8.out.free 0; have y1 := HZ8.out.free 1; have y2 := HZ8.out.free 2; have y3 := HZ8.out.free 3
    have x0 := HZ8.out.cell 0 (v := .int .i64 0) rfl; have x1 := HZ8.out.cell 1 (v := .int .i64 0) rfl; have x2 := HZ8.out.cell 2 (v := .slice none 0 0) rfl; have x3 := HZ8.out.cell 3 (v := .int .i64 0) rfl
    have ed : IntKind.i64.wrap (4 + (k : Int)) = 4 + (k : Int) := by rw [IntKind.wrap_i64]; omega
    go_wp2_with fail
    have HF := η (Ji (v0 := .int .i64 5) (v1 := .int .i64 0) (v2 := .slice (some ⟨g, 0, none⟩) k rc) (v3 := .int .i64 p) HZ8.out)
    have r0 := HF.out.cell 0 (v := .int .i64 5) rfl; have r1 := HF.out.cell 1 (v := .int .i64 0) rfl; have r2 := HF.out.cell 2 (v := .slice (some ⟨g, 0, none⟩) k rc) rfl; have r3 := HF.out.cell 3 (v := .int .i64 p) rfl
    have HR9 := η ((((HR8.out.setFar (i := 0) (x := .int .i64 5) HGN.out.1).setFar (i := 1) (x := .int .i64 0) HGN.out.1).setFar (i := 2) (x := .slice (some ⟨g, 0, none⟩) k rc) HGN.out.1).setFar (i := 3) (x := .int .i64 p) HGN.out.1)
    have HB9 := η (show Below w.heap.size w ((((w8.setCell ⟨w.heap.size, 0, none⟩ (.int .i64 5)).setCell ⟨w.heap.size, 1, none⟩ (.int .i64 0)).setCell ⟨w.heap.size, 2, none⟩ (.slice (some ⟨g, 0, none⟩) k rc)).setCell ⟨w.heap.size, 3, none⟩ (.int .i64 p)) from J9 ν (J9 ν (J9 ν (J9 ν HB8.out))))
    clear c0 c1 c2 c3 x0 x1 x2 x3 y0 y1 y2 y3
    generalize ((((w8.setCell ⟨w.heap.size, 0, none⟩ (.int .i64 5)).setCell ⟨w.heap.size, 1, none⟩ (.int .i64 0)).setCell ⟨w.heap.size, 2, none⟩ (.slice (some ⟨g, 0, none⟩) k rc)).setCell ⟨w.heap.size, 3, none⟩ (.int .i64 p)) = w9 at *
    rw [Exit.noGoto_ret]
    refine bodyPost_ret (v := .tuple #[.agg #[.int .i64 5, .int .i64 0, .slice (some ⟨g, 0, none⟩) k rc, .int .i64 p], .int .i64 (4 + k), .int .i64 0]) (by simp [results, Tryz.results78, go_sem, r0, r1, r2, r3]) rfl ⟨⟨g, rc, by simp [hlR], HG.out, HR9.out⟩, HB9.out⟩
set_option maxRecDepth 100000 in
theorem ZcU (op p : Int) (hop : OpP op p) (n : Nat) (d : Nat → Bool) (v : Nat → Int) (ho : OkK n v) (rest : List Int) (hl : (rest.length : Int) = payR op p (sumZ v n)) (A : Option Addr) (N c : Nat) (w : World) (hT : TabF w) (hN : (hdrB op n d v p ++ rest).length = N) (hb : By w A c (hdrB op n d v p ++ rest)) :
  Calls Tryz.prog 77 #[.slice A N c] w fun e w' => e = .returned (.int .i64 0) ∧ Below w.heap.size w w' := by
 have HO := η ho; have HT := η hT; have HB := η hb; have HL := η hl; have HN := η hN
 have HOP := hop
 have h1 := ho.pos
 have h2 := ho.le
 have hmx := hb.cap; have hm2 := hb.max
 rw [hN] at hmx
 unfold maxLen at hm2
 clear ho hT hb hl
 rcases hop with ⟨h, h'⟩ | ⟨h, hp1, hp2⟩
 ·subst h; subst h'
  have hn2 : (rest.length + n + 2 : Nat) = N := by rw [← hN]; simp [hdrB, ptsN, Jn]; omega
  clear hN
  go_enter Tryz.func77, Tryz.ntmps77
  go_wp2_with fail
  refine (ZaV 4 0 HOP n d v HO.out rest A N c _ HN.out HB.out).mono ?_
  rintro e w1 ⟨⟨g, rc, rfl, hg, hrg⟩, B⟩
  have HR1 := η hrg; have HB1 := η B; have HT1 := η (HT.out.below B ν); clear B hg hrg
  rw [show hlR 4 n = 2 + (n : Int) from by simp [hlR]]
  go_wp2_with fail
  have HX2 := η (Bx.new w1 #[.int .i64 4, .int .i64 0, .slice (some ⟨g, 0, none⟩) n rc, .int .i64 0] 28)
  have HR2 := η (HR1.out.alloc (.cells #[.int .i64 4, .int .i64 0, .slice (some ⟨g, 0, none⟩) n rc, .int .i64 0] 28)); have HT2 := η (HT1.out.alloc (.cells #[.int .i64 4, .int .i64 0, .slice (some ⟨g, 0, none⟩) n rc, .int .i64 0] 28))
  have HB2 := η (HB1.out.alloc HB1.out.size (.cells #[.int .i64 4, .int .i64 0, .slice (some ⟨g, 0, none⟩) n rc, .int .i64 0] 28))
  generalize w1.alloc (.cells #[.int .i64 4, .int .i64 0, .slice (some ⟨g, 0, none⟩) n rc, .int .i64 0] 28) = w2 at *
  clear HT1 HB1 HR1
  have c0 := HX2.out.cell 0 (v := .int .i64 4) rfl; have c1 := HX2.out.cell 1 (v := .int .i64 0) rfl; have c2 := HX2.out.cell 2 (v := .slice (some ⟨g, 0, none⟩) n rc) rfl; have c3 := HX2.out.cell 3 (v := .int .i64 0) rfl
  go_wp2_with fail
  refine (Zbj 4 0 HOP (some ⟨g, 0, none⟩) n rc d v Q0 HO.out (fun _ _ => rfl) _ HT2.out HR2.out).mono ?_
  rintro e w3 ⟨rfl, B⟩
  have HB3 := η (HB2.out.trans (B.mono HB2.out.size)); clear B HB2
  have HSR := η (JM v n)
  have hpr : (2 + (n : Int)) + payR 4 0 (sumZ v n) = (N : Int) := by rw [← HL.out]; omega
  have ew : IntKind.i64.wrap ((2 + (n : Int)) + payR 4 0 (sumZ v n)) = (N : Int) := by rw [hpr, IntKind.wrap_i64]; omega
  clear hpr c0 c1 c2 c3
  go_wp2_with fail
  go_ret
  exact ⟨rfl, HB3.out⟩
 ·subst h
  have hn2 : (rest.length + n + 4 : Nat) = N := by rw [← hN]; simp [hdrB, ptsN, Jn]; omega
  clear hN
  go_enter Tryz.func77, Tryz.ntmps77
  go_wp2_with fail
  refine (ZaV 5 p HOP n d v HO.out rest A N c _ HN.out HB.out).mono ?_
  rintro e w1 ⟨⟨g, rc, rfl, hg, hrg⟩, B⟩
  have HR1 := η hrg; have HB1 := η B; have HT1 := η (HT.out.below B ν); clear B hg hrg
  rw [show hlR 5 n = 4 + (n : Int) from by simp [hlR]]
  go_wp2_with fail
  have HX2 := η (Bx.new w1 #[.int .i64 5, .int .i64 0, .slice (some ⟨g, 0, none⟩) n rc, .int .i64 p] 28)
  have HR2 := η (HR1.out.alloc (.cells #[.int .i64 5, .int .i64 0, .slice (some ⟨g, 0, none⟩) n rc, .int .i64 p] 28)); have HT2 := η (HT1.out.alloc (.cells #[.int .i64 5, .int .i64 0, .slice (some ⟨g, 0, none⟩) n rc, .int .i64 p] 28))
  have HB2 := η (HB1.out.alloc HB1.out.size (.cells #[.int .i64 5, .int .i64 0, .slice (some ⟨g, 0, none⟩) n rc, .int .i64 p] 28))
  generalize w1.alloc (.cells #[.int .i64 5, .int .i64 0, .slice (some ⟨g, 0, none⟩) n rc, .int .i64 p] 28) = w2 at *
  clear HT1 HB1 HR1
  have c0 := HX2.out.cell 0 (v := .int .i64 5) rfl; have c1 := HX2.out.cell 1 (v := .int .i64 0) rfl; have c2 := HX2.out.cell 2 (v := .slice (some ⟨g, 0, none⟩) n rc) rfl; have c3 := HX2.out.cell 3 (v := .int .i64 p) rfl
  go_wp2_with fail
  refine (Zbj 5 p HOP (some ⟨g, 0, none⟩) n rc d v Q0 HO.out (fun _ _ => rfl) _ HT2.out HR2.out).mono ?_
  rintro e w3 ⟨rfl, B⟩
  have HB3 := η (HB2.out.trans (B.mono HB2.out.size)); clear B HB2
  have HSR := η (JM v n)
  have hpr : (4 + (n : Int)) + payR 5 p (sumZ v n) = (N : Int) := by rw [← HL.out]; omega
  have ew : IntKind.i64.wrap ((4 + (n : Int)) + payR 5 p (sumZ v n)) = (N : Int) := by rw [hpr, IntKind.wrap_i64]; omega
  clear hpr c0 c1 c2 c3
  go_wp2_with fail
  go_ret
  exact ⟨rfl, HB3.out⟩
set_option maxRecDepth 100000 in
theorem Zen (A : Option Addr) (n c : Nat) (w : World) :
  Calls Tryz.prog 82 #[.agg #[.int .i64 4, .int .i64 0, .slice A n c, .int .i64 0]] w fun e w' => e = .returned (.tuple #[.int .i64 1, .int .i64 0]) ∧ Below w.heap.size w w' := by
 go_enter Tryz.func82, Tryz.ntmps82
 go_wp2_with fail
 go_ret2
 exact ⟨rfl, J8 J0⟩
set_option maxRecDepth 100000 in
theorem Zc0 (p : Int) (A : Option Addr) (n c : Nat) (w : World) :
  Calls Tryz.prog 82 #[.agg #[.int .i64 5, .int .i64 0, .slice A n c, .int .i64 p]] w fun e w' => e = .returned (.tuple #[.int .i64 0, .int .i64 p]) ∧ Below w.heap.size w w' := by
 go_enter Tryz.func82, Tryz.ntmps82
 go_wp2_with fail
 go_quiet (fail)
 go_wp2_with fail
 go_ret2
 exact ⟨rfl, JH (J8 J0)⟩
set_option maxRecDepth 100000 in
theorem ZbO (r : World) (base bw : Nat) (A : Option Addr) (n c : Nat) (f g : Nat → Int) (hn : n ≤ 10000) (l : List Int) (hl : l.length ≤ 500000) (w : World) (hb : base ≤ w.heap.size) (hrb : r.heap.size ≤ base) (hp : Pts r A n c f g) (hbr : Below base r w) (hw : Wr w base bw l) :
  Calls Tryz.prog 113 #[.slice A n c, .func (.func 114) #[.pointer (some ⟨bw, 0, none⟩)] #[]] w fun e w' => e = .returned (.tuple #[]) ∧ Wr w' base bw (l ++ ptsB f g n) ∧ Fr base (some bw) w w' := by
 have HW := η hw; have HP := η hp; have HLL := η hl; have HN := η hn; have HRB := η hrb; have HBR0 := η hbr; clear hw hp hl hn hrb hbr
 go_enter Tryz.func113, Tryz.ntmps113
 go_wp2_with fail
 go_loopw [8] (fun ir wr => ∃ k : Nat, k ≤ n ∧ ir = .int .i64 (k : Int) ∧ Wr wr base bw (l ++ ptsB f g k) ∧ Fr base (some bw) w wr) (fun i _ => n - (intOf i).toNat)
 case atStart => exact ⟨0, Nat.zero_le _, rfl, by simpa [ptsB] using HW.out, Fr.refl _ _ _⟩
 case round =>
  obtain ⟨k, hk, rfl, hwr, hbr⟩ := hrel
  have HWR := η hwr; have HBR := η hbr; clear hwr hbr
  by_cases hlt : k < n
  ·obtain ⟨b, off, rfl, hbl, hc⟩ := HP.out.at_ (by omega)
   have hB := HBR0.out.trans HBR.out.below
   have c0 : wr.cell? ⟨b, off + k * 2, none⟩ = some (.int .i64 (f k)) := (hB.cell (p := ⟨b, off + k * 2, none⟩) (by show b < base; have := HRB.out; omega)).trans (hc k hlt).1
   have c1 : wr.cell? ⟨b, off + k * 2 + 1, none⟩ = some (.int .i64 (g k)) := (hB.cell (p := ⟨b, off + k * 2 + 1, none⟩) (by show b < base; have := HRB.out; omega)).trans (hc k hlt).2
   have hcp := HP.out.cap; have hmx := HP.out.max
   unfold maxLen at hmx
   clear hB hc hbl
   have hms := η (show n - (intOf (.int .i64 ((k : Int) + 1))).toNat < n - (intOf (.int .i64 (k : Int))).toNat from by simp [intOf]; omega)
   have hlk : (l ++ ptsB f g k).length ≤ 900000 := by have := HLL.out; have := HN.out; simp [JP]; omega
   have HLK := η hlk; clear hlk
   go_wp2_with fail
   clear c0 c1
   have HF := η (HBR.out.alloc (Nat.le_trans hb HBR.out.size) (.cells #[.int .i64 (f k), .int .i64 (g k)] 23))
   have HW1 := η (HWR.out.alloc (.cells #[.int .i64 (f k), .int .i64 (g k)] 23))
   generalize wr.alloc (.cells #[.int .i64 (f k), .int .i64 (g k)] 23) = w1 at *
   clear HBR HWR
   refine (Zcc base bw _ (f k) (g k) HLK.out _ (Nat.le_trans hb HF.out.size) HW1.out).mono ?_
   rintro e w2 ⟨rfl, h2, g2⟩
   have HW2 := η (show Wr w2 base bw (l ++ ptsB f g (k + 1)) from by rw [ptsB, ← List.append_assoc]; exact h2); have HF2 := η (HF.out.trans g2); clear h2 g2 HW1 HF
   go_wp2_with fail
   go_roundw
   case rel => exact ⟨k + 1, hlt, by go_num, HW2.out, HF2.out⟩
   case measure => exact hms.out
  ·obtain rfl : k = n := by omega
   go_wp2_with fail
   go_end0
   exact ⟨rfl, HWR.out, HBR.out⟩
set_option maxRecDepth 100000 in
theorem Ze3 (A : Option Addr) (c : Nat) (F : Value) (w : World) :
  Calls Tryz.prog 115 #[.slice A 0 c, F] w fun e w' => e = .returned (.tuple #[]) ∧ w = w' := by
 go_enter Tryz.func115, Tryz.ntmps115
 go_wp2_with fail
 refine wp_loop_rounds 1 ?_
 rw [rounds_succ]
 go_wp2_with fail
 go_end0
 exact ⟨rfl, rfl⟩
set_option maxRecDepth 100000 in
theorem Zac (A : Option Addr) (c : Nat) (F : Value) (w : World) :
  Calls Tryz.prog 90 #[.slice A 0 c, F] w fun e w' => e = .returned (.tuple #[]) ∧ w = w' := by
 go_enter Tryz.func90, Tryz.ntmps90
 go_wp2_with fail
 refine wp_loop_rounds 1 ?_
 rw [rounds_succ]
 go_wp2_with fail
 go_end0
 exact ⟨rfl, rfl⟩
set_option maxRecDepth 100000 in
theorem Ze4 (F : Value) (w : World) :
  Calls Tryz.prog 83 #[.int .i64 0, F] w fun e w' => e = .returned (.slice (some ⟨w.heap.size, 0, none⟩) 0 0) ∧ Below w.heap.size w w' := by
 have hmk : ∀ w, (Instr.makeSlice 30 (.int .i64 0) (.int .i64 0)).run Tryz.prog w = .ok (.slice (some ⟨w.heap.size, 0, none⟩) 0 0) (w.alloc (.cells #[] 63)) := fun _ => by kernel_rfl
 go_enter Tryz.func83, Tryz.ntmps83
 go_wp2_with fail
 refine wp_loop_rounds 1 ?_
 rw [rounds_succ]
 go_wp2_with fail
 go_ret
 exact ⟨rfl, J8 J0⟩
def rgsB (Q : Nat → Option Addr × Nat × Nat) (F G : Nat → Nat → Int) : Nat → List Int
 | 0 => []
 | k + 1 => rgsB Q F G k ++ ptsB (F k) (G k) (Q k).2.1
theorem ZcV {v : Nat → Int} {Q : Nat → Option Addr × Nat × Nat} (F G : Nat → Nat → Int) {n : Nat} (h : ∀ i, i < n → (((Q i).2.1 : Nat) : Int) = szf (v i)) : ∀ k, k ≤ n → ((rgsB Q F G k).length : Int) = 16 * sumZ v k
 | 0, _ => rfl
 | k + 1, hk => by
  have h1 := ZcV F G h k (by omega)
  have h2 := h k (by omega)
  rw [rgsB, List.length_append, JP, sumZ]; omega
theorem ZaB {v : Nat → Int} {Q : Nat → Option Addr × Nat × Nat} (F G : Nat → Nat → Int) {n k : Nat} (h : ∀ i, i < n → (((Q i).2.1 : Nat) : Int) = szf (v i)) (hk : k ≤ n) (hn : n ≤ 64) : (rgsB Q F G k).length ≤ 65536 := by
 have h1 := ZcV F G h k hk; have h2 := JM v k; omega
end Go.Proofs.YtjdiilkljgljkaaGreatDoor
namespace Go.Proofs.YtjdiilkljgljkaaGreatDoor
set_option linter.unusedVariables false
set_option linter.unusedSimpArgs false
set_option maxRecDepth 20000
open Go.RowKit Wd
theorem Zbb : (Tryz.prog.info? 61).map (fun i => (i.zero, i.size, i.bytes)) = some (some (.int .u64 0), 1, 8) := by kernel_rfl
theorem ZgA (b off n c : Nat) (f : Nat → Int) (w : World) (h : Sl w .u64 (some ⟨b, off, none⟩) n c f) (h0 : 0 < n) (hn : n ≤ 65536) :
  Calls Tryz.prog 102 #[.slice (some ⟨b, off, none⟩) n c] w fun e w' => ∃ g cap, e = .returned (.slice (some ⟨g, 0, none⟩) n cap) ∧ w'.ownsRow w.heap.size 61 1 (.slice (some ⟨g, 0, none⟩) n cap) n (row .u64 f n) ∧ Below w.heap.size w w' := by
 obtain ⟨i0, hi0, hz0, hz1, hz2⟩ := info_parts Zbb
 have hq : ∀ (w : World) (a : Option Addr) (n c n' c' : Nat), (binOp .eql 93 (.slice a n c) (.slice none n' c')).run Tryz.prog w = .ok (.bool a.isNone) w := fun w a n c n' c' => Lib.run_eql_slice_nil w _ _ a n c n' c' Tryz.underlying93
 obtain ⟨b', off', e, hlt, hc⟩ := h.at_ h0
 simp only [Option.some.injEq, Addr.mk.injEq, and_true] at e
 obtain ⟨rfl, rfl⟩ := e
 have hcells := Sl.cells (w := w) (c := c) hc
 have hcells' : ∀ j u, (row .u64 f n)[j]? = some u → (w.alloc (.cells #[] 61)).cell? ((⟨b, off, none⟩ : Addr).add j) = some u := by
  intro j u hu
  rw [World.cell?_alloc_lt _ _ _ (by unfold Addr.add; split <;> exact hlt)]
  exact hcells j u hu
 have HC := η hcells'; clear hcells hcells' hc
 go_enter Tryz.func102, Tryz.ntmps102
 go_wp2_with (at_builtin; refine wpList_append_own _ rfl _ _ 93 rfl w.heap.size 61 i0 (.int .u64 0) 1 8 Tryz.underlying93 hi0 hz0 hz1 hz2 rfl (by decide) _ 0 [] rfl ?c0 ⟨b, off, none⟩ n c (row .u64 f n) rfl (by rw [Zd7]; omega) HC.out (Ziz _ _ _) (by unfold maxLen; omega) (by omega) (by simp) ?_)
 case c0 => exact World.ownsRow_lit w #[] 0 ν (Nat.zero_le _) rfl
 intro v' w1 hown hgrow _
 have hB : Below w.heap.size w w1 := ((Below.refl w.heap.size w).alloc ν _).grown hgrow (by simp) (by intro k hk; simp [Value.ownBlock, Act.eval] at hk; omega)
 go_wp2
 go_ret
 have hown' : w1.ownsRow w.heap.size 61 1 v' n (row .u64 f n) := by simpa using hown
 obtain ⟨g, cap, hv, -, -⟩ := hown'.form h0
 subst hv
 exact ⟨g, cap, rfl, hown', hB⟩
def lenOf : Value → Nat | .slice _ n _ => n | _ => 0
theorem World.ownsRow_le {w : World} {base base' size n : Nat} {e : TypeId} {v : Value} {xs : List Value} (h : w.ownsRow base e size v n xs) (hb : base' ≤ base) : w.ownsRow base' e size v n xs := by
 obtain ⟨h1, h2⟩ := h
 refine ⟨h1, ?_⟩
 rcases h2 with h2 | ⟨g, cap, cur, hv, hg, r⟩
 ·exact Or.inl h2
 ·exact Or.inr ⟨g, cap, cur, hv, Nat.le_trans hb hg, r⟩
theorem Js (A : Option Addr) (n c : Nat) (x : Int) (mi : Int) (m : Nat) (hmi : mi = m) (w : World) (h : Sl w .u64 A n c (lmb x)) (hx : Fit n x) (hn : isN n = true) (hm : isN m = true) :
  Calls Tryz.prog 74 #[.slice A n c, .int .i64 mi] w fun e w' => ∃ A' c', e = .returned (.slice A' m c') ∧ Sl w' .u64 A' m c' (lmb x) ∧ Below w.heap.size w w' := by
 subst hmi
 obtain ⟨i0, hi0, hz0, hz1, hz2⟩ := info_parts Zbb
 have hn' := Zap hn
 have hm' := Zap hm
 obtain ⟨b, off, rfl, hlt, hc⟩ := h.at_ (by omega)
 have hfill : msk (decide (9223372036854775808 ≤ lmb x (n - 1))) = msk (decide (x < 0)) := by
  obtain ⟨k, rfl⟩ : ∃ k, n = k + 1 := ⟨n - 1, by omega⟩
  rw [Nat.add_sub_cancel, decide_eq_decide.2 (top_neg hx)]
 have hmax := h.max
 have hcap := h.cap
 have HN := η hn; have HM := η hm; have HC := η hc; have HF := η hfill; have HX := η hx
 clear hn hm hc hfill hx
 go_enter Tryz.func74, Tryz.ntmps74
 go_wp2_with fail
 refine (ZeX _ (some ⟨b, off, none⟩) n c (by omega) _ (by simp [go_sem])).mono ?_
 rintro e w1 ⟨rfl, rfl⟩
 rw [HN.out]
 go_wp2_with fail
 refine (ZgA b off n c (lmb x) _ (h.alloc _) (by omega) (by omega)).mono ?_
 rintro e w1 ⟨g, cap, rfl, hown, hb1⟩
 have hb2 : Below w.heap.size w w1 := ((Below.refl w.heap.size w).alloc ν _).trans (hb1.mono (by simp))
 have hc1 : w1.cell? ⟨b, off + (n - 1), none⟩ = some (.int .u64 (lmb x (n - 1))) := (hb2.cell (p := ⟨b, off + (n - 1), none⟩) hlt).trans (HC.out (n - 1) (by omega))
 go_wp2_with fail
 refine (Ze0 _ (isW_lmb x (n - 1)) _).mono ?_
 rintro e w2 ⟨rfl, rfl⟩
 rw [HF.out]
 clear hc1
 have hown' : w1.ownsRow w.heap.size 61 1 (.slice (some ⟨g, 0, none⟩) n cap) n (row .u64 (lmb x) n) := World.ownsRow_le hown (by simp)
 have HO := η hown'; clear hown hown'
 have HB := η hb2; clear hb2 hb1
 go_wp2_with fail
 go_loopw [5] (fun v wr => ∃ k g cap : Nat, v = .slice (some ⟨g, 0, none⟩) k cap ∧ n ≤ k ∧ k ≤ n + m ∧ (n < k → k ≤ m) ∧ wr.ownsRow w.heap.size 61 1 (.slice (some ⟨g, 0, none⟩) k cap) k (row .u64 (lmb x) k) ∧ Below w.heap.size w wr)
  (fun v _ => m - lenOf v)
 case atStart => exact ⟨n, g, cap, rfl, Nat.le_refl _, by omega, by omega, HO.out, HB.out⟩
 case round =>
  clear HO HB
  obtain ⟨k, g, cap, rfl, hk1, hk2, hk3, hown, hb⟩ := hrel
  by_cases hlt' : k < m
  ·go_wp2_with (at_builtin; refine wpList_append_own _ rfl _ _ 93 rfl w.heap.size 61 i0 (.int .u64 0) 1 8 Tryz.underlying93 hi0 hz0 hz1 hz2 rfl (by decide) _ _ _ rfl (hown.alloc _) ⟨wr.heap.size, 0, none⟩ 1 1 [.int .u64 (msk (decide (x < 0)))] rfl rfl ?c1 ?c2 ?c3 ?c4 ?c5 ?_)
   case c1 => exact Jt _ _ _
   case c2 => exact JC _ _
   case c3 => unfold maxLen; omega
   case c4 => omega
   case c5 => have := hb.size; simp; omega
   intro v' w2 hown2 hgrow _
   have hb3 : Below w.heap.size w w2 := (hb.alloc hb.size _).grown hgrow (by have := hb.size; simp; omega) (JR hown)
   have hown3 := ZaF hown2 (lmb_fill HX.out hk1).symm
   obtain ⟨g2, cap2, hv2, -, -⟩ := hown3.form (by omega)
   subst hv2
   have H3 := η hown3; have B3 := η hb3
   clear hown2 hgrow hown hb hb3 hown3
   go_wp2
   go_roundw
   case rel => exact ⟨k + 1, g2, cap2, rfl, by omega, by omega, by omega, H3.out, B3.out⟩
   case measure => simp [lenOf]; omega
  ·have hsl := Sl.of_own hown
   obtain ⟨A', c', hv, hsl⟩ := hsl
   injection hv with e1 e2 e3
   subst e1 e3
   have hcc := hsl.cap
   have hcm := hsl.max
   have HS := η hsl; have HB3 := η hb
   clear hsl hown hb
   unfold maxLen at hcm
   go_wp2
   go_ret
   exact ⟨some ⟨g, 0, none⟩, m, rfl, HS.out.take (by omega), HB3.out⟩
theorem ZiI (w : World) (x : Int) (t : TypeId) : Sl (w.alloc (.cells #[.int .u64 (IntKind.u64.wrap x)] t)) .u64 (some ⟨w.heap.size, 0, none⟩) 1 1 (lmb x) :=
 ⟨Nat.le_refl _, by decide, fun _ => ⟨w.heap.size, 0, rfl, by simp, fun i hi => by
  obtain rfl : i = 0 := by omega
  have e : lmb x 0 = IntKind.u64.wrap x := by unfold lmb; rw [qt_zero, IntKind.wrap_u64]
  rw [e]; simp [go_sem]⟩⟩
theorem Zce (x : Int) (mi : Int) (m : Nat) (hmi : mi = m) (hx : IsI x) (hm : isN m = true) (w : World) :
  Calls Tryz.prog 130 #[.int .i64 x, .int .i64 mi] w fun e w' => ∃ A' c', e = .returned (.slice A' m c') ∧ Sl w' .u64 A' m c' (lmb x) ∧ Below w.heap.size w w' := by
 subst hmi
 have HX := η (ZjT hx (Nat.le_refl 1)); clear hx
 have HM := η hm; clear hm
 go_enter Tryz.func130, Tryz.ntmps130
 go_wp2_with fail
 refine (Js _ 1 1 x _ m rfl _ (ZiI w x _) HX.out rfl HM.out).mono ?_
 rintro e w1 ⟨A', c', rfl, hs, hb⟩
 go_wp2_with fail
 go_ret
 exact ⟨A', c', rfl, hs, ((Below.refl w.heap.size w).alloc ν _).trans (hb.mono (by simp))⟩
end Go.Proofs.YtjdiilkljgljkaaGreatDoor
namespace Go.Proofs.YtjdiilkljgljkaaGreatDoor
set_option linter.unusedVariables false
set_option linter.unusedSimpArgs false
open Go.RowKit Wd
theorem Zeo (x y : Int) (i : Nat) (w : World) : Calls Tryz.prog 174 #[.int .u64 (lmb x i), .int .u64 (lmb y i), .int .u64 (car x y i)] w fun e w' => e = .returned (.tuple #[.int .u64 (lmb (x + y) i), .int .u64 (car x y (i + 1))]) ∧ w' = w := by
 have h := ZhS _ _ _ (isW_lmb x i) (isW_lmb y i) (isW_car x y i) w
 rw [(add_step x y i).1, (add_step x y i).2] at h
 exact Zaz h
theorem Zep (x y : Int) (i : Nat) (w : World) : Calls Tryz.prog 128 #[.int .u64 (lmb x i), .int .u64 (lmb y i), .int .u64 (brw x y i)] w fun e w' => e = .returned (.tuple #[.int .u64 (lmb (x - y) i), .int .u64 (brw x y (i + 1))]) ∧ w' = w := by
 have h := ZhT _ _ _ (isW_lmb x i) (isW_lmb y i) (isW_brw x y i) w
 rw [(sub_step x y i).1, (sub_step x y i).2] at h
 exact Zaz h
set_option maxHeartbeats 400000 in
theorem Zh8 (A A' : Option Addr) (n c c' : Nat) (x y : Int) (w : World) (ha : Sl w .u64 A n c (lmb x)) (hb : Sl w .u64 A' n c' (lmb y)) (hn : isN n = true) :
  Calls Tryz.prog 129 #[.agg #[.func (.func 174) #[] #[]], .slice A n c, .slice A' n c', .int .u64 0] w fun e w' => ∃ g, e = .returned (.slice (some ⟨g, 0, none⟩) n n) ∧
   w'.ownsRow w.heap.size 61 1 (.slice (some ⟨g, 0, none⟩) n n) n (row .u64 (lmb (x + y)) n) ∧ Below w.heap.size w w' := by
 obtain ⟨i0, hi0, hz0, hz1, hz2⟩ := info_parts Zbb
 have hn' := Zap hn
 obtain ⟨b, off, rfl, hlt, hca⟩ := ha.at_ (by omega)
 obtain ⟨b', off', rfl, hlt', hcb⟩ := hb.at_ (by omega)
 have hmax := ha.max; have hmax' := hb.max; have hcap := ha.cap; have hcap' := hb.cap
 have HN := η hn; have HA := η hca; have HB := η hcb
 clear hn hca hcb ha hb
 go_enter Tryz.func129, Tryz.ntmps129
 go_wp2_with fail
 refine (ZcS _ (some ⟨b, off, none⟩) (some ⟨b', off', none⟩) n c n c' (by omega) (by omega) _ (by simp [go_sem]) (by simp [go_sem])).mono ?_
 rintro e w1 ⟨rfl, rfl⟩
 rw [HN.out]
 go_wp2_with (at_make; refine wpList_make_full _ rfl _ _ 93 rfl (w.heap.size + 1) 61 i0 (.int .u64 0) 1 Tryz.underlying93 hi0 hz0 hz1 .i64 .i64 (n : Int) (n : Int) n rfl rfl rfl rfl (by rw [hz2]; omega) (by unfold maxLen; omega) (by simp) ?_)
 intro w2 hown hgrow
 have hb2 : Below w.heap.size w w2 := (((Below.refl w.heap.size w).alloc ν _).alloc (by simp) _).grown hgrow (by simp; omega) (by intro k hk; cases hk)
 have hbox : w2.cell? ⟨w.heap.size, 0, none⟩ = some (.func (.func 174) #[] #[]) := by
  rw [World.cell?_of_block (hgrow.block w.heap.size (by simp; omega) (by intro h; cases h))]; simp [go_sem]
 rw [toList_madeCells_one, ZcN .u64 (lmb (x + y)) n] at hown
 have HO := η hown; have HX := η hbox; have HB2 := η hb2
 have hg1 : w.heap.size + 1 + 1 < w2.heap.size := (hown.lt _ rfl).2
 clear hown hbox hgrow hb2
 go_wp2_with fail
 go_loopw [3, 28] (fun cr i wr => ∃ k : Nat, k ≤ n ∧ i = .int .i64 k ∧ cr = .int .u64 (car x y k) ∧ wr.ownsRow (w.heap.size + 1) 61 1 (.slice (some ⟨w.heap.size + 1 + 1, 0, none⟩) n n) n (row .u64 (upd (lmb (x + y)) k) n) ∧ Below (w.heap.size + 1) w2 wr)
  (fun _ i _ => n - (intOf i).toNat)
 case atStart => exact ⟨0, Nat.zero_le _, rfl, by rw [car_zero], HO.out, Below.refl _ _⟩
 case round =>
  clear HO
  obtain ⟨k, hk, rfl, rfl, hown, hbr⟩ := hrel
  by_cases hlt2 : k < n
  ·have c1 : wr.cell? ⟨w.heap.size, 0, none⟩ = some (.func (.func 174) #[] #[]) := (hbr.cell (p := ⟨w.heap.size, 0, none⟩) (by simp)).trans HX.out
   have c2 : wr.cell? ⟨b, off + k, none⟩ = some (.int .u64 (lmb x k)) := ((hbr.cell (p := ⟨b, off + k, none⟩) (by simp; omega)).trans (HB2.out.cell (p := ⟨b, off + k, none⟩) hlt)).trans (HA.out k hlt2)
   have c3 : wr.cell? ⟨b', off' + k, none⟩ = some (.int .u64 (lmb y k)) := ((hbr.cell (p := ⟨b', off' + k, none⟩) (by simp; omega)).trans (HB2.out.cell (p := ⟨b', off' + k, none⟩) hlt')).trans (HB.out k hlt2)
   have c4 : wr.cell? ⟨w.heap.size + 1 + 1, k, none⟩ = some (.int .u64 0) := by
    rw [World.ownsRow.cellAt hown k (by omega), Zbx hlt2]; simp [upd]
   have c5 : wr.frozen? ⟨w.heap.size + 1 + 1, k, none⟩ = false := World.ownsRow.frozenAt hown k
   have HOW := η hown; have HBR := η hbr
   clear hown hbr HA HB HX HB2
   go_wp2_with fail
   go_region_held3 (fun w' => w'.cell? ⟨w.heap.size, 0, none⟩ = some (.func (.func 174) #[] #[]) ∧ w'.cell? ⟨b, off + k, none⟩ = some (.int .u64 (lmb x k)) ∧ w'.cell? ⟨b', off' + k, none⟩ = some (.int .u64 (lmb y k))) (first | exact ⟨c1, c2, c3⟩ | exact ⟨ZaG c1 (by simp; omega), ZaG c2 (by simp; omega), ZaG c3 (by simp; omega)⟩) (first | (go_at_call 174; refine (Zeo x y k _).mono ?_; rintro e w' ⟨rfl, rfl⟩))
   go_wp2_with fail
   go_roundw
   case rel => exact ⟨k + 1, by omega, by go_num, rfl, (ZdW HOW.out rfl hlt2).drew, (HBR.out.setCell (p := ⟨w.heap.size + 1 + 1, k, none⟩) (by simp) _).drew⟩
   case measure => simp [intOf]; omega
  ·go_wp2_with fail
   go_ret
   obtain rfl : k = n := by omega
   exact ⟨_, rfl, World.ownsRow_le (by rw [← ZcD]; exact hown) (by omega), HB2.out.trans (hbr.mono (by omega))⟩
set_option maxHeartbeats 400000 in
theorem Zh9 (A A' : Option Addr) (n c c' : Nat) (x y : Int) (w : World) (ha : Sl w .u64 A n c (lmb x)) (hb : Sl w .u64 A' n c' (lmb y)) (hn : isN n = true) :
  Calls Tryz.prog 129 #[.agg #[.func (.func 128) #[] #[]], .slice A n c, .slice A' n c', .int .u64 0] w fun e w' => ∃ g, e = .returned (.slice (some ⟨g, 0, none⟩) n n) ∧
   w'.ownsRow w.heap.size 61 1 (.slice (some ⟨g, 0, none⟩) n n) n (row .u64 (lmb (x - y)) n) ∧ Below w.heap.size w w' := by
 obtain ⟨i0, hi0, hz0, hz1, hz2⟩ := info_parts Zbb
 have hn' := Zap hn
 obtain ⟨b, off, rfl, hlt, hca⟩ := ha.at_ (by omega)
 obtain ⟨b', off', rfl, hlt', hcb⟩ := hb.at_ (by omega)
 have hmax := ha.max; have hmax' := hb.max; have hcap := ha.cap; have hcap' := hb.cap
 have HN := η hn; have HA := η hca; have HB := η hcb
 clear hn hca hcb ha hb
 go_enter Tryz.func129, Tryz.ntmps129
 go_wp2_with fail
 refine (ZcS _ (some ⟨b, off, none⟩) (some ⟨b', off', none⟩) n c n c' (by omega) (by omega) _ (by simp [go_sem]) (by simp [go_sem])).mono ?_
 rintro e w1 ⟨rfl, rfl⟩
 rw [HN.out]
 go_wp2_with (at_make; refine wpList_make_full _ rfl _ _ 93 rfl (w.heap.size + 1) 61 i0 (.int .u64 0) 1 Tryz.underlying93 hi0 hz0 hz1 .i64 .i64 (n : Int) (n : Int) n rfl rfl rfl rfl (by rw [hz2]; omega) (by unfold maxLen; omega) (by simp) ?_)
 intro w2 hown hgrow
 have hb2 : Below w.heap.size w w2 := (((Below.refl w.heap.size w).alloc ν _).alloc (by simp) _).grown hgrow (by simp; omega) (by intro k hk; cases hk)
 have hbox : w2.cell? ⟨w.heap.size, 0, none⟩ = some (.func (.func 128) #[] #[]) := by
  rw [World.cell?_of_block (hgrow.block w.heap.size (by simp; omega) (by intro h; cases h))]; simp [go_sem]
 rw [toList_madeCells_one, ZcN .u64 (lmb (x - y)) n] at hown
 have HO := η hown; have HX := η hbox; have HB2 := η hb2
 have hg1 : w.heap.size + 1 + 1 < w2.heap.size := (hown.lt _ rfl).2
 clear hown hbox hgrow hb2
 go_wp2_with fail
 go_loopw [3, 28] (fun cr i wr => ∃ k : Nat, k ≤ n ∧ i = .int .i64 k ∧ cr = .int .u64 (brw x y k) ∧ wr.ownsRow (w.heap.size + 1) 61 1 (.slice (some ⟨w.heap.size + 1 + 1, 0, none⟩) n n) n (row .u64 (upd (lmb (x - y)) k) n) ∧ Below (w.heap.size + 1) w2 wr)
  (fun _ i _ => n - (intOf i).toNat)
 case atStart => exact ⟨0, Nat.zero_le _, rfl, by rw [brw_zero], HO.out, Below.refl _ _⟩
 case round =>
  clear HO
  obtain ⟨k, hk, rfl, rfl, hown, hbr⟩ := hrel
  by_cases hlt2 : k < n
  ·have c1 : wr.cell? ⟨w.heap.size, 0, none⟩ = some (.func (.func 128) #[] #[]) := (hbr.cell (p := ⟨w.heap.size, 0, none⟩) (by simp)).trans HX.out
   have c2 : wr.cell? ⟨b, off + k, none⟩ = some (.int .u64 (lmb x k)) := ((hbr.cell (p := ⟨b, off + k, none⟩) (by simp; omega)).trans (HB2.out.cell (p := ⟨b, off + k, none⟩) hlt)).trans (HA.out k hlt2)
   have c3 : wr.cell? ⟨b', off' + k, none⟩ = some (.int .u64 (lmb y k)) := ((hbr.cell (p := ⟨b', off' + k, none⟩) (by simp; omega)).trans (HB2.out.cell (p := ⟨b', off' + k, none⟩) hlt')).trans (HB.out k hlt2)
   have c4 : wr.cell? ⟨w.heap.size + 1 + 1, k, none⟩ = some (.int .u64 0) := by
    rw [World.ownsRow.cellAt hown k (by omega), Zbx hlt2]; simp [upd]
   have c5 : wr.frozen? ⟨w.heap.size + 1 + 1, k, none⟩ = false := World.ownsRow.frozenAt hown k
   have HOW := η hown; have HBR := η hbr
   clear hown hbr HA HB HX HB2
   go_wp2_with fail
   go_region_held3 (fun w' => w'.cell? ⟨w.heap.size, 0, none⟩ = some (.func (.func 128) #[] #[]) ∧ w'.cell? ⟨b, off + k, none⟩ = some (.int .u64 (lmb x k)) ∧ w'.cell? ⟨b', off' + k, none⟩ = some (.int .u64 (lmb y k))) (first | exact ⟨c1, c2, c3⟩ | exact ⟨ZaG c1 (by simp; omega), ZaG c2 (by simp; omega), ZaG c3 (by simp; omega)⟩) (first | (go_at_call 128; refine (Zep x y k _).mono ?_; rintro e w' ⟨rfl, rfl⟩))
   go_wp2_with fail
   go_roundw
   case rel => exact ⟨k + 1, by omega, by go_num, rfl, (ZdW HOW.out rfl hlt2).drew, (HBR.out.setCell (p := ⟨w.heap.size + 1 + 1, k, none⟩) (by simp) _).drew⟩
   case measure => simp [intOf]; omega
  ·go_wp2_with fail
   go_ret
   obtain rfl : k = n := by omega
   exact ⟨_, rfl, World.ownsRow_le (by rw [← ZcD]; exact hown) (by omega), HB2.out.trans (hbr.mono (by omega))⟩
theorem ZbP (A A' : Option Addr) (n c c' : Nat) (x y : Int) (w : World) (ha : Sl w .u64 A n c (lmb x)) (hb : Sl w .u64 A' n c' (lmb y)) (hn : isN n = true) :
  Calls Tryz.prog 170 #[.slice A n c, .slice A' n c'] w fun e w' => ∃ A2 c2, e = .returned (.slice A2 n c2) ∧ Sl w' .u64 A2 n c2 (lmb (x + y)) ∧ Below w.heap.size w w' := by
 go_enter Tryz.func170, Tryz.ntmps170
 go_wp2_with fail
 refine (Zh8 A A' n c c' x y _ ha hb hn).mono ?_
 rintro e w1 ⟨g, rfl, hown, hb1⟩
 obtain ⟨A2, c2, hv, hsl⟩ := Sl.of_own hown
 injection hv with e1 e2 e3
 subst e1 e3
 go_wp2_with fail
 go_ret
 exact ⟨_, _, rfl, hsl, hb1⟩
theorem Zf1 (A A' : Option Addr) (n c c' : Nat) (x y : Int) (w : World) (ha : Sl w .u64 A n c (lmb x)) (hb : Sl w .u64 A' n c' (lmb y)) (hn : isN n = true) :
  Calls Tryz.prog 106 #[.slice A n c, .slice A' n c'] w fun e w' => ∃ A2 c2, e = .returned (.slice A2 n c2) ∧ Sl w' .u64 A2 n c2 (lmb (x - y)) ∧ Below w.heap.size w w' := by
 go_enter Tryz.func106, Tryz.ntmps106
 go_wp2_with fail
 refine (Zh9 A A' n c c' x y _ ha hb hn).mono ?_
 rintro e w1 ⟨g, rfl, hown, hb1⟩
 obtain ⟨A2, c2, hv, hsl⟩ := Sl.of_own hown
 injection hv with e1 e2 e3
 subst e1 e3
 go_wp2_with fail
 go_ret
 exact ⟨_, _, rfl, hsl, hb1⟩
end Go.Proofs.YtjdiilkljgljkaaGreatDoor
