/- Part g of the lemmas of TopBatch: contracts of functions of the program, and plain laws of numbers, bytes and memory. -/
import Derived.Test.YtjdiilkljgljkaaGreatDoorMc
import Derived.Test.YtjdiilkljgljkaaGreatDoorMf
import Derived.Test.YtjdiilkljgljkaaGreatDoorMb
import Derived.Test.YtjdiilkljgljkaaGreatDoorMe
import Derived.MapKept
import Derived.Test.YtjdiilkljgljkaaGreatDoorMd
import Derived.Deep.RegionHeld3
import Derived.Laws.EntriesVeiled
import Derived.Test.YtjdiilkljgljkaaGreatDoorMa
set_option maxHeartbeats 4000000
namespace Go.Proofs.YtjdiilkljgljkaaGreatDoor
set_option linter.unusedVariables false
set_option linter.unusedSimpArgs false
open Go.RowKit Wd Go.Shelf
attribute [local go_sem] Oper.semAt_some
theorem weq {x y : Int} (h : x = -1 ∨ x = 0 ∨ x = 1) (k : y = -1 ∨ y = 0 ∨ y = 1) : decide (IntKind.u64.wrap x = IntKind.u64.wrap y) = decide (x = y) := by
 rcases h with rfl | rfl | rfl <;> rcases k with rfl | rfl | rfl <;> rfl
def Zb2 (f g : Nat → Int) {n : Nat} (pre : List (Fin n)) : Bool := pre.foldl (fun (p : Bool) (i : Fin n) => p && allB (okAt f g n (ori f g n) (i : Nat)) n) (!decide (ori f g n = 0))
theorem Zdl (f g : Nat → Int) {n : Nat} (pre : List (Fin n)) (i : Fin n) : Zb2 f g (pre ++ [i]) = (Zb2 f g pre && allB (okAt f g n (ori f g n) (i : Nat)) n) := by
 unfold Zb2; rw [List.foldl_append]; rfl
theorem Zea (f g : Nat → Int) {n : Nat} : ∀ k, k ≤ n → Zb2 f g (fup n k) = (!decide (ori f g n = 0) && allB (fun i => allB (okAt f g n (ori f g n) i) n) k)
 | 0, h => by show (!decide (ori f g n = 0)) = _; rw [allB, Bool.and_true]
 | k + 1, h => by rw [ZaK (by omega), Zdl, Zea f g k (by omega), allB, Bool.and_assoc]
theorem Zhf (f g : Nat → Int) (n : Nat) : Zb2 f g (eds n) = JU f g n := by
 unfold eds
 by_cases h : inP n
 ·rw [if_pos h, Zea f g n ν]; unfold JU; simp [h]
 ·rw [if_neg h, Zdk h]; show (!decide (ori f g n = 0)) = _; rw [ZdJ h]; rfl
theorem ZjZ {w : World} {A : Option Addr} {n c : Nat} {f g : Nat → Int} (h : Pts w A n c f g) {q : Nat} (hq : q < n) : ∃ b off, A = some ⟨b, off, none⟩ ∧ Pt1 w b (off + q * 2) (f q) (g q) := by
 obtain ⟨b, off, e, hlt, hc⟩ := h.at_ (by omega)
 exact ⟨b, off, e, hlt, (hc q hq).1, (hc q hq).2⟩
set_option maxRecDepth 100000 in
set_option maxHeartbeats 8000000 in
theorem Zer (A : Option Addr) (n c : Nat) (f g : Nat → Int) (w : World) (hT : TabM w) (hp : Pts w A n c f g) :
  Calls Tryz.prog 160 #[.pointer none, .slice A n c] w fun e w' => e = .returned (.int .u64 (msk (JU f g n))) ∧ Below w.heap.size w w' := by
 have hm := Nat.le_trans hp.cap hp.max
 have FT := η hT; have FX := η hp; clear hT hp
 have HB0 := η (Below.refl w.heap.size w)
 have HR := η (Zbl f g n)
 have HX1 := η (ZdI (decide (ori f g n = 0)))
 refine (callsIn_wide (n := 8)).1 ?_
 refine callsIn_of_wp_marks Tryz.func160 rfl trivial ?_ rfl
 simp only [Tryz.ntmps160, List.size_toArray, List.length_cons, List.length_nil, Nat.reduceAdd, Nat.reduceSub, Array.replicate_succ, Array.replicate_zero, List.push_toArray, List.append_toArray, List.nil_append, List.cons_append]
 gi_wp2_with fail
 have B : Below w.heap.size w ((w.alloc (.cells #[.pointer none] 98)).alloc (.cells #[.slice A n c] 29)) := ((HB0.out.alloc HB0.out.size _).alloc (HB0.out.alloc HB0.out.size _).size _)
 have C : Below w.heap.size w ((w.alloc (.cells #[.pointer none] 98)).alloc (.cells #[.slice A n c] 29)) := (((Below.refl w.heap.size w).alloc ν _).alloc (by simp; try omega) _)
 have X0 : Bx ((w.alloc (.cells #[.pointer none] 98)).alloc (.cells #[.slice A n c] 29)) (w.heap.size) #[.pointer none] 98 := by simpa using ((Bx.new w #[.pointer none] 98).alloc _)
 have X1 : Bx ((w.alloc (.cells #[.pointer none] 98)).alloc (.cells #[.slice A n c] 29)) (w.heap.size + 1) #[.slice A n c] 29 := by simpa using (Bx.new (w.alloc (.cells #[.pointer none] 98)) #[.slice A n c] 29)
 have FT_1 := η (FT.out.below C ν)
 have FX_1 := η (FX.out.below C ν)
 have HB1 := η B
 have FN_1 := η X0
 have FB_1 := η X1
 clear B C X0 X1 HB0 FT FX
 generalize ((w.alloc (.cells #[.pointer none] 98)).alloc (.cells #[.slice A n c] 29)) = w1 at *
 skip
 try refine ⟨trivial, ?_⟩
 refine CallsIn.mono (n := _) (callsIn_wide.2 (ZaE _ n c f g _ FT_1.out FX_1.out)) ?_
 rintro e w2 ⟨rfl, B⟩
 have HB2 := η (HB1.out.trans (B.mono HB1.out.size))
 have FT_2 := η (FT_1.out.below B ν)
 have FX_2 := η (FX_1.out.below B ν)
 have FN_2 := η (FN_1.out.below B ν)
 have FB_2 := η (FB_1.out.below B ν)
 clear B  HB1 FT_1 FX_1 FN_1 FB_1
 gi_wp2_with fail
 have B : Below w.heap.size w (w2.alloc (.cells #[.int .i64 (ori f g n)] 2)) := (HB2.out.alloc HB2.out.size _)
 have C : Below w2.heap.size w2 (w2.alloc (.cells #[.int .i64 (ori f g n)] 2)) := ((Below.refl w2.heap.size w2).alloc ν _)
 have X0 : Bx (w2.alloc (.cells #[.int .i64 (ori f g n)] 2)) (w2.heap.size) #[.int .i64 (ori f g n)] 2 := by simpa using (Bx.new w2 #[.int .i64 (ori f g n)] 2)
 have FT_3 := η (FT_2.out.below C ν)
 have FX_3 := η (FX_2.out.below C ν)
 have FN_3 := η (FN_2.out.below C ν)
 have FB_3 := η (FB_2.out.below C ν)
 have HB3 := η B
 have FS_3 := η X0
 clear B C X0 HB2 FT_2 FX_2 FN_2 FB_2
 generalize (w2.alloc (.cells #[.int .i64 (ori f g n)] 2)) = w3 at *
 skip
 try refine ⟨trivial, ?_⟩
 refine CallsIn.mono (n := _) (callsIn_wide.2 (Zax _ (JO _) _)) ?_
 rintro e w4 ⟨rfl, rfl⟩
 rw [wu0 HR.out]
 have hx1 := HX1.out; have zB := (FB_3.out.alloc (.cells #[.int .u64 (msk (!decide (ori f g n = 0)))] 61)).cell 0 (v := .slice A n c) rfl
 gi_wp2_with fail
 try refine ⟨trivial, ?_⟩
 refine CallsIn.mono (n := _) (callsIn_wide.2 (Zc1 A n c _)) ?_
 rintro e w5 ⟨rfl, rfl⟩
 clear zB hx1
 gi_wp2_with fail
 have HSZ := η (show ((w3.alloc (.cells #[.int .u64 (msk (!decide (ori f g n = 0)))] 61)).alloc (.cells #[.slice A n c] 29)).heap.size = w3.heap.size + 1 + 1 from by simp)
 have C0 := η (show Below w3.heap.size w3 ((w3.alloc (.cells #[.int .u64 (msk (!decide (ori f g n = 0)))] 61)).alloc (.cells #[.slice A n c] 29)) from J8 (J8 J0))
 have BM := η (show Bx ((w3.alloc (.cells #[.int .u64 (msk (!decide (ori f g n = 0)))] 61)).alloc (.cells #[.slice A n c] 29)) w3.heap.size #[.int .u64 (msk (Zb2 f g ([] : List (Fin n))))] 61 from (Bx.new w3 _ _).alloc _)
 have BV := η (show Bx ((w3.alloc (.cells #[.int .u64 (msk (!decide (ori f g n = 0)))] 61)).alloc (.cells #[.slice A n c] 29)) (w3.heap.size + 1) #[.slice A n c] 29 from Jb (by simp))
 obtain ⟨W0, hW0⟩ : ∃ W0, ((w3.alloc (.cells #[.int .u64 (msk (!decide (ori f g n = 0)))] 61)).alloc (.cells #[.slice A n c] 29)) = W0 := ⟨_, rfl⟩
 rw [hW0] at HSZ C0 BM BV ⊢; clear hW0
 refine wpIn_rangeFunc_ownH rfl (by omega) (gf := 175) (lb := #[.pointer (some ⟨w3.heap.size + 1, 0, none⟩)]) rfl trivial (enters_of Tryz.func175 (by kernel_rfl) rfl)
  (ZcI 7 (w3.heap.size + 1) (by omega) w3 A n c f g FX_3.out W0 C0.out BV.out)
  KpE.trans (fun W l ob o' hl h hc hw => ⟨belowK_b (w := W0) C0.out.size W l ob o' hl h hc hw, World.putObj_heap_other (by have := HSZ.out; omega)⟩) (Below.refl _ _) (fun _ => rfl)
  (fun (pre : List (Fin n)) W => Bx W w3.heap.size #[.int .u64 (msk (Zb2 f g pre))] 61 ∧ Bx W (w3.heap.size + 1) #[.slice A n c] 29 ∧ Below w3.heap.size w3 W) (fun _ _ _ => False)
  (fun s X Y row hs hg hr => ⟨JJ hs.1 hg hr, JJ hs.2.1 hg hr, ownFrom_below (β := Unit) ν C0.out.size () X Y row hs.2.2 hg hr⟩)
  (fun _ _ _ _ _ hs _ _ => hs)
  ⟨BM.out, BV.out, C0.out⟩
  (fun (x1 : Fin n) a' W => ∃ Be, w3.heap.size + 1 + 1 ≤ Be ∧ Bx W Be #[.int .i64 ((x1 : Nat) : Int), .int .i64 (((x1 + 1) % n : Nat) : Int), .int .i64 (f x1), .int .i64 (g x1), .int .i64 (f ((x1 + 1) % n)), .int .i64 (g ((x1 + 1) % n))] 245 ∧ a' = { tmps := #[.pointer none, .slice A n c, .pointer (some ⟨w.heap.size, 0, none⟩), .pointer (some ⟨w.heap.size + 1, 0, none⟩), .int .u64 0, .pointer (some ⟨w2.heap.size, 0, none⟩), .pointer (some ⟨w3.heap.size, 0, none⟩), .pointer (some ⟨Be, 0, none⟩), undef, undef, .slice A n c, .int .i64 (ori f g n), .int .i64 (ori f g n), .int .u64 (IntKind.u64.wrap (ori f g n)), .int .u64 (msk (decide (ori f g n = 0))), .int .u64 (msk (!decide (ori f g n = 0))), .slice A n c, .func (.func 175) #[] #[.pointer (some ⟨w3.heap.size + 1, 0, none⟩)], Zbm f g n x1, undef, undef, undef, undef, undef, undef, undef, undef, undef, undef, undef, undef, undef, undef, undef, undef, undef, undef, undef, undef, undef, undef, undef, undef, undef, undef, undef, undef, undef, undef, undef, undef, undef, undef, undef, undef], defers := [] })
  (fun x1 a' _ X Y row hs hg hr => by obtain ⟨Be, h1, h2, h3⟩ := hs; exact ⟨Be, h1, JJ h2 hg hr, h3⟩) ?assign ?body ?done ?stop
 case stop => intro D cc pre W _ _ h _; exact h.elim
 case assign =>
  rintro l pre x1 W K ⟨i1, i2, i3⟩ hK
  have H1 := η i1; have H2 := η i2; have H3 := η i3
  have HK := η hK; clear hK i1 i2 i3
  have hed : Zbm f g n x1 = .agg #[.int .i64 ((x1 : Nat) : Int), .int .i64 (((x1 + 1) % n : Nat) : Int), .int .i64 (f x1), .int .i64 (g x1), .int .i64 (f ((x1 + 1) % n)), .int .i64 (g ((x1 + 1) % n))] := rfl
  gi_wp2_with fail
  exact HK.out _ _ ((KeepsOthers.alloc _ _).from _) ⟨(Below.refl _ _).alloc H3.out.size _, Below.heap_alloc _ _ _ H2.out.lt⟩ ⟨H1.out.alloc _, H2.out.alloc _, H3.out.alloc H3.out.size _⟩ ⟨W.heap.size, H2.out.lt, Bx.new _ _ _, rfl⟩
 case done =>
  rintro D xs W hD hxs ⟨i1, i2, i3⟩ hK
  have hxs' : xs = eds n := hxs
  subst hxs'
  have zO := i1.cell 0 (v := .int .u64 (msk (Zb2 f g (eds n)))) rfl
  have H4 := η i3; have HK := η hK; have HD := η hD
  clear i1 i2 i3 hK hD hxs
  rw [Zhf] at zO
  gi_wp2_with fail
  refine ⟨by simp, .inl ⟨_, _, rfl, run_takeDeferred HK.out, ?_⟩⟩
  have hB : Below w.heap.size w W := HB3.out.trans (H4.out.mono HB3.out.size)
  exact ⟨_, results_tmp rfl _ _ _, rfl, hB.trans (belowK_b (w := w) ν _ D _ _ (by have := HD.out; have := HSZ.out; have := HB3.out.size; omega) HK.out rfl rfl)⟩
 case body =>
  rintro l pre ⟨k, hk1⟩ a' W hl - ⟨i1, i2, i3⟩ ⟨Be, hBe, bE, rfl⟩ hlen
  have hmx : n ≤ 9223372036854775807 := Nat.le_trans hm (by decide)
  have hk2 : (k + 1) % n < n := Nat.mod_lt _ (by omega)
  have hss := η (Zdl f g pre ⟨k, hk1⟩)
  have H5 : Hid (Bx W Be #[.int .i64 (k : Int), .int .i64 (((k + 1) % n : Nat) : Int), .int .i64 (f k), .int .i64 (g k), .int .i64 (f ((k + 1) % n)), .int .i64 (g ((k + 1) % n))] 245) := η bE
  have H1 := η i1; have H2 := η i2; have H3 := η i3; have HBE := η hBe; clear i1 i2 i3 bE hBe hl hlen
  simp only [show ((⟨k, hk1⟩ : Fin n) : Nat) = k from rfl] at hss
  have hedg : ∀ q, edg f g n k (f q) (g q) = det (f k) (g k) (f ((k + 1) % n)) (g ((k + 1) % n)) (f q) (g q) := fun _ => rfl
  have hokk : ∀ o s, (o && allB (okAt f g n s k) k && okAt f g n s k k) = (o && allB (okAt f g n s k) k) := fun o s => by rw [show okAt f g n s k k = true from by simp [okAt, skip], Bool.and_true]
  have hsk : ∀ q, skip n k q = (decide (q = k) || decide (q = (k + 1) % n)) := fun _ => rfl
  generalize hK2 : (k + 1) % n = k2 at H5 hk2 hedg hsk
  generalize Zb2 f g pre = o0 at H1 hss
  have HEDG := η hedg; have HSK := η hsk; clear hedg hsk hokk
  have HKK2 := η hK2; clear hK2
  have zB := (FB_3.out.below H3.out ν).cell 0 (v := .slice A n c) rfl
  gi_wp2_with fail
  refine ZaD ?_
  refine wpIn_seq_k fun KL hKL => ?_
  refine wpIn_label ?_
  refine hKL _ _ ?_
  clear hKL KL
  gi_wp2_with fail
  clear zB
  gi_loopw [21] (fun j wr => ∃ q : Nat, q ≤ n ∧ j = .int .i64 (q : Int) ∧ Bx wr w3.heap.size #[.int .u64 (msk (o0 && allB (okAt f g n (ori f g n) k) q))] 61 ∧ Bx wr (w3.heap.size + 1) #[.slice A n c] 29 ∧ Bx wr Be #[.int .i64 (k : Int), .int .i64 (k2 : Int), .int .i64 (f k), .int .i64 (g k), .int .i64 (f k2), .int .i64 (g k2)] 245 ∧ Below w3.heap.size w3 wr ∧ KeepsFrom W0.heap.size W wr) (fun j _ => n - (intOf j).toNat)
  case atStart => exact ⟨0, Nat.zero_le _, rfl, by rw [allB, Bool.and_true]; exact H1.out, H2.out, H5.out, H3.out, KeepsFrom.refl _ _⟩
  case round =>
   obtain ⟨q, hq, rfl, j1, j2, j3, j4, j5⟩ := hrel
   have J1 := η j1; have J2 := η j2; have J3 := η j3; have J4 := η j4; have J5 := η j5; clear j1 j2 j3 j4 j5
   by_cases hq1 : q < n
   ·have hms := η (ZeO hq1)
    have hpos := η (show (.int .i64 ((q : Int) + 1) : Value) = .int .i64 ((q + 1 : Nat) : Int) from by simp)
    have hwq : wrap64 ((q : Int) + 1) = (q : Int) + 1 := by rw [← IntWalk.i64_left, IntKind.wrap_i64]; omega
    have hwq2 : IntKind.i64.wrap ((q : Int) + 1) = (q : Int) + 1 := by rw [IntKind.wrap_i64]; omega
    obtain ⟨b, off, rfl, hpt⟩ := ZjZ (FX_3.out.below J4.out ν) hq1
    have c1 := hpt.x; have c2 := hpt.y
    have e1 := (J3.out.alloc (.cells #[.int .i64 (f q), .int .i64 (g q)] 23)).cell 0 (v := .int .i64 (k : Int)) rfl
    have e2 := (J3.out.alloc (.cells #[.int .i64 (f q), .int .i64 (g q)] 23)).cell 1 (v := .int .i64 (k2 : Int)) rfl
    have eN := (((FN_3.out.below J4.out ν) : Bx _ _ _ _).alloc (.cells #[.int .i64 (f q), .int .i64 (g q)] 23)).cell 0 (v := .pointer none) rfl
    by_cases hskp : q = k ∨ q = k2
    ·have hrq := η (show (o0 && allB (okAt f g n (ori f g n) k) q) = (o0 && allB (okAt f g n (ori f g n) k) (q + 1)) from by
      rw [allB, show okAt f g n (ori f g n) k q = true from by unfold okAt; rw [HSK.out]; simp [hskp], Bool.and_true])
     rcases (by omega : q = k ∨ (q ≠ k ∧ q = k2)) with hqk | ⟨hqk, hqk2⟩
     ·have hb1 : ((q : Int) == (k : Int)) = true := by simp; omega
      clear hskp hqk
      gi_wp2_with fail
      go_roundw
      case rel => exact ⟨q + 1, hq1, hpos.out, by rw [← hrq.out]; exact J1.out.alloc _, J2.out.alloc _, J3.out.alloc _, J4.out.alloc J4.out.size _, J5.out.trans ((KeepsOthers.alloc _ _).from _)⟩
      case measure => exact hms.out
     ·have hb1 : ((q : Int) == (k : Int)) = false := by simp; omega
      have hb3 : ((q : Int) == (k2 : Int)) = true := by simp; omega
      clear hskp hqk hqk2
      gi_wp2_with fail
      go_roundw
      case rel => exact ⟨q + 1, hq1, hpos.out, by rw [← hrq.out]; exact J1.out.alloc _, J2.out.alloc _, J3.out.alloc _, J4.out.alloc J4.out.size _, J5.out.trans ((KeepsOthers.alloc _ _).from _)⟩
      case measure => exact hms.out
    ·have hqk : ¬ (q = k) := fun h => hskp (.inl h)
     have hqk2 : ¬ (q = k2) := fun h => hskp (.inr h)
     clear hskp
     have hb1 : ((q : Int) == (k : Int)) = false := by simp; omega
     have hb3 : ((q : Int) == (k2 : Int)) = false := by simp; omega
     gi_wp2_with fail
     clear e1 e2 eN c1 c2 hpt hb1 hb3
     have hvq := η (show (o0 && allB (okAt f g n (ori f g n) k) q && decide (sg (det (f k) (g k) (f k2) (g k2) (f q) (g q)) = ori f g n)) = (o0 && allB (okAt f g n (ori f g n) k) (q + 1)) from by
      rw [allB, show okAt f g n (ori f g n) k q = decide (sg (det (f k) (g k) (f k2) (g k2) (f q) (g q)) = ori f g n) from by unfold okAt; rw [HSK.out, HEDG.out]; simp [hqk, hqk2], Bool.and_assoc])
     have HP3 := η (isIP FX_3.out hk1 hk2 hq1)
     have HEQ := η (weq (Zbd (det (f k) (g k) (f k2) (g k2) (f q) (g q))) HR.out)
     have M1 := η (J1.out.alloc (.cells #[.int .i64 (f q), .int .i64 (g q)] 23)); have M2 := η (J2.out.alloc (.cells #[.int .i64 (f q), .int .i64 (g q)] 23)); have M3 := η (J3.out.alloc (.cells #[.int .i64 (f q), .int .i64 (g q)] 23)); have M4 := η (Bx.new wr #[.int .i64 (f q), .int .i64 (g q)] 23)
     have C9 := η (J4.out.alloc J4.out.size (.cells #[.int .i64 (f q), .int .i64 (g q)] 23)); have K9 := η (J5.out.trans ((KeepsOthers.alloc wr (.cells #[.int .i64 (f q), .int .i64 (g q)] 23)).from W0.heap.size))
     have HLT := η J3.out.lt
     clear J1 J2 J3 J4 J5 hqk hqk2
     generalize wr.alloc (.cells #[.int .i64 (f q), .int .i64 (g q)] 23) = wq at *
     have HAN := η (and_msk (o0 && allB (okAt f g n (ori f g n) k) q) (decide (sg (det (f k) (g k) (f k2) (g k2) (f q) (g q)) = ori f g n)))
     have FT_30 := η (FT_3.out.below C9.out ν)
     have FX_30 := η (FX_3.out.below C9.out ν)
     have FN_30 := η (FN_3.out.below C9.out ν)
     have FB_30 := η (FB_3.out.below C9.out ν)
     have FS_30 := η (FS_3.out.below C9.out ν)
     have FM_30 := M1
     have FV_30 := M2
     have FE_30 := M3
     have FQ_30 := M4
     have HS30 := η (Below.refl wq.heap.size wq)
     skip
     try refine ⟨trivial, ?_⟩
     refine CallsIn.mono (n := _) (CallsIn.inRound l (callsIn_wide.2 (Ju _ _ _ _))) ?_
     rintro e w31 ⟨rfl, rfl⟩
     gi_wp2_with fail
     refine wpIn_region_any (by kernel_rfl) ?_
     change wpAnyIn _ _ _ _ _ _ _ _ _ (World.drew _)
     have RB31 := η (Je wq)
     refine Jk (WideF.round l) (fun a b => Below a.heap.size a b) (fun _ => J0) (fun _ _ _ h k => J6 h k) [⟨0, 41, fun z_ _ => z_ = .int .u64 (msk (o0 && allB (okAt f g n (ori f g n) k) q))⟩, ⟨1, 42, fun z_ _ => z_ = .pointer (some ⟨Be, 2, none⟩)⟩, ⟨2, 43, fun z_ _ => z_ = .agg #[.int .i64 (f k), .int .i64 (g k)]⟩, ⟨3, 44, fun z_ _ => z_ = .pointer (some ⟨Be, 4, none⟩)⟩, ⟨4, 45, fun z_ _ => z_ = .agg #[.int .i64 (f k2), .int .i64 (g k2)]⟩, ⟨5, 46, fun z_ _ => z_ = .agg #[.int .i64 (f q), .int .i64 (g q)]⟩, ⟨6, 47, fun z_ _ => z_ = .int .i64 (sg (det (f k) (g k) (f k2) (g k2) (f q) (g q)))⟩, ⟨7, 48, fun z_ _ => z_ = .int .u64 (IntKind.u64.wrap (sg (det (f k) (g k) (f k2) (g k2) (f q) (g q))))⟩, ⟨8, 49, fun z_ _ => z_ = .int .i64 (ori f g n)⟩, ⟨9, 50, fun z_ _ => z_ = .int .u64 (IntKind.u64.wrap (ori f g n))⟩, ⟨10, 51, fun z_ _ => z_ = .int .u64 (msk (decide (sg (det (f k) (g k) (f k2) (g k2) (f q) (g q)) = ori f g n)))⟩, ⟨11, 52, fun z_ _ => z_ = .int .u64 (msk ((o0 && allB (okAt f g n (ori f g n) k) q) && decide (sg (det (f k) (g k) (f k2) (g k2) (f q) (g q)) = ori f g n)))⟩] 12 (by kernel_rfl) ?_ ?_ ?_
     ·refine ⟨?_, ?_, ?_, ?_, ?_, ?_, ?_, ?_, ?_, ?_, ?_, ?_, trivial⟩
      all_goals (intro x w w' hb h; first | exact h | (obtain ⟨b_, h1, h2⟩ := h; exact ⟨b_, h1, h2.below hb ν⟩))
     ·refine ⟨?_, ?_, ?_, ?_, ?_, ?_, ?_, ?_, ?_, ?_, ?_, ?_, trivial⟩
      ·intro a wz K hb ht hd hK
       have hbw := η (J6 RB31.out hb); clear hb
       have hx6 := (ht 6 rfl).trans rfl
       have es6 : a.tmps.getD 6 undef = _ := J7 hx6; clear hx6
       clear ht hd
       have zc0 := (FM_30.out.below hbw.out ν).cell 0 (v := .int .u64 (msk (o0 && allB (okAt f g n (ori f g n) k) q))) rfl
       have HK := η hK; clear hK
       refine oP (fun K' HK' => ?_)
       go_simp
       exact HK'.out _ _ (HK.out _ _ J0 rfl)
      ·intro a wz K hb ht hd hK
       have hbw := η (J6 RB31.out hb); clear hb
       have hx7 := (ht 7 rfl).trans rfl
       have es7 : a.tmps.getD 7 undef = _ := J7 hx7; clear hx7
       clear ht hd
       have HK := η hK; clear hK
       refine oP (fun K' HK' => ?_)
       go_simp
       exact HK'.out _ _ (HK.out _ _ J0 rfl)
      ·intro a wz K hb ht hd hK
       have hbw := η (J6 RB31.out hb); clear hb
       obtain ⟨x42, hx42, hp42⟩ := hd 1 _ rfl (by kernel_rfl)
       obtain rfl := hp42
       have es42 : a.tmps.getD 42 undef = _ := J7 hx42; clear hx42
       clear ht hd
       have zc0 := (FE_30.out.below hbw.out ν).cell 2 (v := .int .i64 (f k)) rfl
       have zc1 := (FE_30.out.below hbw.out ν).cell 3 (v := .int .i64 (g k)) rfl
       have HK := η hK; clear hK
       refine oP (fun K' HK' => ?_)
       go_simp
       exact HK'.out _ _ (HK.out _ _ J0 rfl)
      ·intro a wz K hb ht hd hK
       have hbw := η (J6 RB31.out hb); clear hb
       have hx7 := (ht 7 rfl).trans rfl
       have es7 : a.tmps.getD 7 undef = _ := J7 hx7; clear hx7
       clear ht hd
       have HK := η hK; clear hK
       refine oP (fun K' HK' => ?_)
       go_simp
       exact HK'.out _ _ (HK.out _ _ J0 rfl)
      ·intro a wz K hb ht hd hK
       have hbw := η (J6 RB31.out hb); clear hb
       obtain ⟨x44, hx44, hp44⟩ := hd 3 _ rfl (by kernel_rfl)
       obtain rfl := hp44
       have es44 : a.tmps.getD 44 undef = _ := J7 hx44; clear hx44
       clear ht hd
       have zc0 := (FE_30.out.below hbw.out ν).cell 4 (v := .int .i64 (f k2)) rfl
       have zc1 := (FE_30.out.below hbw.out ν).cell 5 (v := .int .i64 (g k2)) rfl
       have HK := η hK; clear hK
       refine oP (fun K' HK' => ?_)
       go_simp
       exact HK'.out _ _ (HK.out _ _ J0 rfl)
      ·intro a wz K hb ht hd hK
       have hbw := η (J6 RB31.out hb); clear hb
       have hx9 := (ht 9 rfl).trans rfl
       have es9 : a.tmps.getD 9 undef = _ := J7 hx9; clear hx9
       clear ht hd
       have zc0 := (FQ_30.out.below hbw.out ν).cell 0 (v := .int .i64 (f q)) rfl
       have zc1 := (FQ_30.out.below hbw.out ν).cell 1 (v := .int .i64 (g q)) rfl
       have HK := η hK; clear hK
       refine oP (fun K' HK' => ?_)
       go_simp
       exact HK'.out _ _ (HK.out _ _ J0 rfl)
      ·intro a wz K hb ht hd hK
       have hbw := η (J6 RB31.out hb); clear hb
       obtain ⟨x43, hx43, hp43⟩ := hd 2 _ rfl (by kernel_rfl)
       obtain rfl := hp43
       have es43 : a.tmps.getD 43 undef = _ := J7 hx43; clear hx43
       obtain ⟨x45, hx45, hp45⟩ := hd 4 _ rfl (by kernel_rfl)
       obtain rfl := hp45
       have es45 : a.tmps.getD 45 undef = _ := J7 hx45; clear hx45
       obtain ⟨x46, hx46, hp46⟩ := hd 5 _ rfl (by kernel_rfl)
       obtain rfl := hp46
       have es46 : a.tmps.getD 46 undef = _ := J7 hx46; clear hx46
       clear ht hd
       have HK := η hK; clear hK
       refine oP (fun K' HK' => ?_)
       go_simp
       refine (JQ _ _ _ _ _ _ HP3.out _ (FT_30.out.below hbw.out ν)).mono ?_
       rintro e w1 ⟨rfl, B⟩
       go_wp2_with fail
       exact HK'.out _ _ (HK.out _ _ B rfl)
      ·intro a wz K hb ht hd hK
       have hbw := η (J6 RB31.out hb); clear hb
       obtain ⟨x47, hx47, hp47⟩ := hd 6 _ rfl (by kernel_rfl)
       obtain rfl := hp47
       have es47 : a.tmps.getD 47 undef = _ := J7 hx47; clear hx47
       clear ht hd
       have HK := η hK; clear hK
       refine oP (fun K' HK' => ?_)
       go_simp
       exact HK'.out _ _ (HK.out _ _ J0 rfl)
      ·intro a wz K hb ht hd hK
       have hbw := η (J6 RB31.out hb); clear hb
       have hx5 := (ht 5 rfl).trans rfl
       have es5 : a.tmps.getD 5 undef = _ := J7 hx5; clear hx5
       clear ht hd
       have zc0 := (FS_30.out.below hbw.out ν).cell 0 (v := .int .i64 (ori f g n)) rfl
       have HK := η hK; clear hK
       refine oP (fun K' HK' => ?_)
       go_simp
       exact HK'.out _ _ (HK.out _ _ J0 rfl)
      ·intro a wz K hb ht hd hK
       have hbw := η (J6 RB31.out hb); clear hb
       obtain ⟨x49, hx49, hp49⟩ := hd 8 _ rfl (by kernel_rfl)
       obtain rfl := hp49
       have es49 : a.tmps.getD 49 undef = _ := J7 hx49; clear hx49
       clear ht hd
       have HK := η hK; clear hK
       refine oP (fun K' HK' => ?_)
       go_simp
       exact HK'.out _ _ (HK.out _ _ J0 rfl)
      ·intro a wz K hb ht hd hK
       have hbw := η (J6 RB31.out hb); clear hb
       obtain ⟨x48, hx48, hp48⟩ := hd 7 _ rfl (by kernel_rfl)
       obtain rfl := hp48
       have es48 : a.tmps.getD 48 undef = _ := J7 hx48; clear hx48
       obtain ⟨x50, hx50, hp50⟩ := hd 9 _ rfl (by kernel_rfl)
       obtain rfl := hp50
       have es50 : a.tmps.getD 50 undef = _ := J7 hx50; clear hx50
       clear ht hd
       have HK := η hK; clear hK
       refine oP (fun K' HK' => ?_)
       go_simp
       refine (Zdi _ _ (JO _) (JO _) _).mono ?_
       rintro e w1 ⟨rfl, rfl⟩
       rw [HEQ.out]
       go_wp2_with fail
       exact HK'.out _ _ (HK.out _ _ J0 rfl)
      ·intro a wz K hb ht hd hK
       have hbw := η (J6 RB31.out hb); clear hb
       obtain ⟨x41, hx41, hp41⟩ := hd 0 _ rfl (by kernel_rfl)
       obtain rfl := hp41
       have es41 : a.tmps.getD 41 undef = _ := J7 hx41; clear hx41
       obtain ⟨x51, hx51, hp51⟩ := hd 10 _ rfl (by kernel_rfl)
       obtain rfl := hp51
       have es51 : a.tmps.getD 51 undef = _ := J7 hx51; clear hx51
       clear ht hd
       have HK := η hK; clear hK
       have e1 := HAN.out
       refine oP (fun K' HK' => ?_)
       go_simp
       exact HK'.out _ _ (HK.out _ _ J0 rfl)
     intro w32 X hb hv
     simp only [List.foldl_cons, List.foldl_nil, Act.put, List.setIfInBounds_toArray, List.set_cons_zero, List.set_cons_succ, List.toList_toArray, List.drop_succ_cons, List.drop_zero]
     obtain ⟨hv0, hv1, hv2, hv3, hv4, hv5, hv6, hv7, hv8, hv9, hv10, hv11, -⟩ := hv
     have hV0 : (fun z_ _ => z_ = .int .u64 (msk (o0 && allB (okAt f g n (ori f g n) k) q))) (X 41) w32 := hv0; clear hv0; have hv0 := hV0; clear hV0; generalize X 41 = X41 at *
     have hV1 : (fun z_ _ => z_ = .pointer (some ⟨Be, 2, none⟩)) (X 42) w32 := hv1; clear hv1; have hv1 := hV1; clear hV1; generalize X 42 = X42 at *
     have hV2 : (fun z_ _ => z_ = .agg #[.int .i64 (f k), .int .i64 (g k)]) (X 43) w32 := hv2; clear hv2; have hv2 := hV2; clear hV2; generalize X 43 = X43 at *
     have hV3 : (fun z_ _ => z_ = .pointer (some ⟨Be, 4, none⟩)) (X 44) w32 := hv3; clear hv3; have hv3 := hV3; clear hV3; generalize X 44 = X44 at *
     have hV4 : (fun z_ _ => z_ = .agg #[.int .i64 (f k2), .int .i64 (g k2)]) (X 45) w32 := hv4; clear hv4; have hv4 := hV4; clear hV4; generalize X 45 = X45 at *
     have hV5 : (fun z_ _ => z_ = .agg #[.int .i64 (f q), .int .i64 (g q)]) (X 46) w32 := hv5; clear hv5; have hv5 := hV5; clear hV5; generalize X 46 = X46 at *
     have hV6 : (fun z_ _ => z_ = .int .i64 (sg (det (f k) (g k) (f k2) (g k2) (f q) (g q)))) (X 47) w32 := hv6; clear hv6; have hv6 := hV6; clear hV6; generalize X 47 = X47 at *
     have hV7 : (fun z_ _ => z_ = .int .u64 (IntKind.u64.wrap (sg (det (f k) (g k) (f k2) (g k2) (f q) (g q))))) (X 48) w32 := hv7; clear hv7; have hv7 := hV7; clear hV7; generalize X 48 = X48 at *
     have hV8 : (fun z_ _ => z_ = .int .i64 (ori f g n)) (X 49) w32 := hv8; clear hv8; have hv8 := hV8; clear hV8; generalize X 49 = X49 at *
     have hV9 : (fun z_ _ => z_ = .int .u64 (IntKind.u64.wrap (ori f g n))) (X 50) w32 := hv9; clear hv9; have hv9 := hV9; clear hV9; generalize X 50 = X50 at *
     have hV10 : (fun z_ _ => z_ = .int .u64 (msk (decide (sg (det (f k) (g k) (f k2) (g k2) (f q) (g q)) = ori f g n)))) (X 51) w32 := hv10; clear hv10; have hv10 := hV10; clear hV10; generalize X 51 = X51 at *
     have hV11 : (fun z_ _ => z_ = .int .u64 (msk ((o0 && allB (okAt f g n (ori f g n) k) q) && decide (sg (det (f k) (g k) (f k2) (g k2) (f q) (g q)) = ori f g n)))) (X 52) w32 := hv11; clear hv11; have hv11 := hV11; clear hV11; generalize X 52 = X52 at *
     obtain rfl := hv0
     obtain rfl := hv1
     obtain rfl := hv2
     obtain rfl := hv3
     obtain rfl := hv4
     obtain rfl := hv5
     obtain rfl := hv6
     obtain rfl := hv7
     obtain rfl := hv8
     obtain rfl := hv9
     obtain rfl := hv10
     obtain rfl := hv11
     have RC := η (J6 RB31.out hb); clear hb
     have FT_32 := η (FT_30.out.below RC.out ν)
     have FX_32 := η (FX_30.out.below RC.out ν)
     have FN_32 := η (FN_30.out.below RC.out ν)
     have FB_32 := η (FB_30.out.below RC.out ν)
     have FS_32 := η (FS_30.out.below RC.out ν)
     have FM_32 := η (FM_30.out.below RC.out ν)
     have FV_32 := η (FV_30.out.below RC.out ν)
     have FE_32 := η (FE_30.out.below RC.out ν)
     have FQ_32 := η (FQ_30.out.below RC.out ν)
     have HB32 := η (HS30.out.trans (RC.out.mono HS30.out.size))
     clear HS30 FT_30 FX_30 FN_30 FB_30 FS_30 FM_30 FV_30 FE_30 FQ_30 RB31
     have C33 := η (C9.out.trans (HB32.out.mono C9.out.size)); have K33 := η (K9.out.trans ((Zal HB32.out).from _))
     clear C9 K9
     have BM33 := FM_32
     clear M1
     have BV33 := FV_32
     clear M2
     have BE33 := FE_32
     clear M3
     have BQ33 := FQ_32
     clear M4
     clear HB32 FT_32 FX_32 FN_32 FB_32 FS_32 FM_32 FV_32 FE_32 FQ_32
     have zO := BM33.out.cell 0 (v := .int .u64 (msk (o0 && allB (okAt f g n (ori f g n) k) q))) rfl; have zF := BM33.out.free 0; have zL := BM33.out.lt
     gi_wp2_with fail
     clear zO zF zL
     have C34 := η (show Below w3.heap.size w3 (w32.setCell ⟨w3.heap.size, 0, none⟩ (.int .u64 (msk ((o0 && allB (okAt f g n (ori f g n) k) q) && decide (sg (det (f k) (g k) (f k2) (g k2) (f q) (g q)) = ori f g n))))) from C33.out.setCell (p := ⟨w3.heap.size, 0, none⟩) ν _); have K34 := η (show KeepsFrom _ _ (w32.setCell ⟨w3.heap.size, 0, none⟩ (.int .u64 (msk ((o0 && allB (okAt f g n (ori f g n) k) q) && decide (sg (det (f k) (g k) (f k2) (g k2) (f q) (g q)) = ori f g n))))) from K33.out.trans ((KeepsOthers.setCell _ _ _).from _))
     clear C33 K33
     have BM34 := η (show Bx (w32.setCell ⟨w3.heap.size, 0, none⟩ (.int .u64 (msk ((o0 && allB (okAt f g n (ori f g n) k) q) && decide (sg (det (f k) (g k) (f k2) (g k2) (f q) (g q)) = ori f g n))))) (w3.heap.size) #[.int .u64 (msk ((o0 && allB (okAt f g n (ori f g n) k) q) && decide (sg (det (f k) (g k) (f k2) (g k2) (f q) (g q)) = ori f g n)))] 61 from BM33.out.set 0 _)
     clear BM33
     have BV34 := η (show Bx (w32.setCell ⟨w3.heap.size, 0, none⟩ (.int .u64 (msk ((o0 && allB (okAt f g n (ori f g n) k) q) && decide (sg (det (f k) (g k) (f k2) (g k2) (f q) (g q)) = ori f g n))))) (w3.heap.size + 1) #[.slice (some ⟨b, off, none⟩) n c] 29 from BV33.out.other _ (show w3.heap.size + 1 ≠ w3.heap.size from by have h1 := HSZ.out; have h2 := HBE.out; have h3 := HLT.out; omega))
     clear BV33
     have BE34 := η (show Bx (w32.setCell ⟨w3.heap.size, 0, none⟩ (.int .u64 (msk ((o0 && allB (okAt f g n (ori f g n) k) q) && decide (sg (det (f k) (g k) (f k2) (g k2) (f q) (g q)) = ori f g n))))) (Be) #[.int .i64 (k : Int), .int .i64 (k2 : Int), .int .i64 (f k), .int .i64 (g k), .int .i64 (f k2), .int .i64 (g k2)] 245 from BE33.out.other _ (show Be ≠ w3.heap.size from by have h1 := HSZ.out; have h2 := HBE.out; have h3 := HLT.out; omega))
     clear BE33
     have BQ34 := η (show Bx (w32.setCell ⟨w3.heap.size, 0, none⟩ (.int .u64 (msk ((o0 && allB (okAt f g n (ori f g n) k) q) && decide (sg (det (f k) (g k) (f k2) (g k2) (f q) (g q)) = ori f g n))))) (wr.heap.size) #[.int .i64 (f q), .int .i64 (g q)] 23 from BQ33.out.other _ (show wr.heap.size ≠ w3.heap.size from by have h1 := HSZ.out; have h2 := HBE.out; have h3 := HLT.out; omega))
     clear BQ33
     generalize (w32.setCell ⟨w3.heap.size, 0, none⟩ (.int .u64 (msk ((o0 && allB (okAt f g n (ori f g n) k) q) && decide (sg (det (f k) (g k) (f k2) (g k2) (f q) (g q)) = ori f g n))))) = w34 at *
     go_roundw
     case rel => exact ⟨q + 1, hq1, hpos.out, by rw [← hvq.out]; exact BM34.out, BV34.out, BE34.out, C34.out, K34.out⟩
     case measure => exact hms.out
   ·have hqn : q = n := by omega
    rw [hqn] at J1
    gi_wp2_with fail
    refine ⟨J5.out, ⟨ZbU H3.out J4.out J5.out.size, (show _ = _ from J2.out).trans (show _ = _ from H2.out).symm⟩, ?_⟩
    dsimp only; rw [hss.out]
    exact ⟨J1.out, J2.out, J4.out⟩
end Go.Proofs.YtjdiilkljgljkaaGreatDoor
namespace Go.Proofs.YtjdiilkljgljkaaGreatDoor
set_option linter.unusedVariables false
set_option linter.unusedSimpArgs false
open Go.RowKit Wd
def tyf (v : Int) : TypeId := if v = 0 then 195 else 196
def Zbe (v : Int) : FuncId := if v = 0 then 198 else 205
def ZaM (v : Int) : FuncId := if v = 0 then 196 else 203
theorem Zi3 (v : Int) (x : Value) (w : World) : (method 366 (tyf v) x "geofence/fence.valid").run Tryz.prog w = .ok (Zbe v, x) w := by
 unfold tyf Zbe; by_cases h : v = 0
 ·rw [if_pos h, if_pos h]; exact ZdC x w
 ·rw [if_neg h, if_neg h]; exact Zde x w
theorem Zhg (v : Int) (x : Value) (w : World) : (method 366 (tyf v) x "geofence/fence.locate").run Tryz.prog w = .ok (ZaM v, x) w := by
 unfold tyf ZaM; by_cases h : v = 0
 ·rw [if_pos h, if_pos h]; exact Zdd x w
 ·rw [if_neg h, if_neg h]; exact ZcR x w
theorem ZgH (v : Int) (args : Array Value) (w : World) : (callFunc (Zbe v) args).run Tryz.prog w = .ok (.enter (Zbe v) args) w := by
 unfold Zbe; by_cases h : v = 0
 ·rw [if_pos h]; kernel_rfl
 ·rw [if_neg h]; kernel_rfl
theorem ZfS (v : Int) (args : Array Value) (w : World) : (callFunc (ZaM v) args).run Tryz.prog w = .ok (.enter (ZaM v) args) w := by
 unfold ZaM; by_cases h : v = 0
 ·rw [if_pos h]; kernel_rfl
 ·rw [if_neg h]; kernel_rfl
theorem ZaW (d : Bool) (v : Int) (A : Option Addr) (n c : Nat) (w : World) :
  Calls Tryz.prog 111 #[.agg #[.bool d, .int .i64 v, .slice A n c]] w fun e w' => e = .returned (.iface (tyf v) (.agg #[.bool d, .int .i64 v, .slice A n c])) ∧ Below w.heap.size w w' := by
 by_cases h : v = 0
 ·subst h; exact ZbC d A n c w
 ·unfold tyf; rw [if_neg h]; exact ZbD d v h A n c w
def ZaU (v : Int) (f g : Nat → Int) (n : Nat) : Bool := if v = 0 then !decide (det (f 0) (g 0) (f 1) (g 1) (f 2) (g 2) = 0) else JU f g n
def locR (v : Int) (f g : Nat → Int) (n : Nat) (x y : Int) : Int := if v = 0 then sg (circ (f 0) (g 0) (f 1) (g 1) (f 2) (g 2) x y) * sg (det (f 0) (g 0) (f 1) (g 1) (f 2) (g 2)) else locP f g n x y
theorem Pts.p4 {w : World} {A : Option Addr} {c : Nat} {f g : Nat → Int} (h : Pts w A 3 c f g) {x y : Int} (hx : IsI x) (hy : IsI y) : P4 (f 0) (g 0) (f 1) (g 1) (f 2) (g 2) x y :=
 ⟨(h.isi 0 (by decide)).1, (h.isi 0 (by decide)).2, (h.isi 1 (by decide)).1, (h.isi 1 (by decide)).2, (h.isi 2 (by decide)).1, (h.isi 2 (by decide)).2, hx, hy⟩
set_option maxRecDepth 100000 in
theorem ZfT (d : Bool) (A : Option Addr) (c : Nat) (f g : Nat → Int) (w : World) (hT : TabM w) (hp : Pts w A 3 c f g) :
  Calls Tryz.prog 198 #[.agg #[.bool d, .int .i64 0, .slice A 3 c], .pointer none] w fun e w' => e = .returned (.int .u64 (msk (ZaU 0 f g 3))) ∧ Below w.heap.size w w' := by
 have HT := η hT; have HP := η hp; clear hT hp
 go_enter Tryz.func198, Tryz.ntmps198
 go_wp2_with fail
 have HB := η (show Below w.heap.size w (w.alloc (.cells #[.bool d, .int .i64 0, .slice A 3 c] 195)) from J8 J0)
 refine (ZfQ A c _ _ _ _ _ _ HP.out.p3 _ (HT.out.below HB.out ν) ((HP.out.alloc _).t3)).mono ?_
 rintro e w2 ⟨rfl, B⟩
 have HB2 := η (HB.out.trans (B.mono HB.out.size)); clear B HB
 go_wp2_with fail
 go_ret
 exact ⟨rfl, HB2.out⟩
set_option maxRecDepth 100000 in
theorem Zfb (d : Bool) (v : Int) (hv : v ≠ 0) (A : Option Addr) (n c : Nat) (f g : Nat → Int) (w : World) (hT : TabM w) (hp : Pts w A n c f g) :
  Calls Tryz.prog 205 #[.agg #[.bool d, .int .i64 v, .slice A n c], .pointer none] w fun e w' => e = .returned (.int .u64 (msk (ZaU v f g n))) ∧ Below w.heap.size w w' := by
 have HT := η hT; have HP := η hp; clear hT hp
 have HV := η hv; clear hv
 go_enter Tryz.func205, Tryz.ntmps205
 go_wp2_with fail
 have HB := η (show Below w.heap.size w (w.alloc (.cells #[.bool d, .int .i64 v, .slice A n c] 196)) from J8 J0)
 refine (Zer A n c f g _ (HT.out.below HB.out ν) (HP.out.alloc _)).mono ?_
 rintro e w2 ⟨rfl, B⟩
 have HB2 := η (HB.out.trans (B.mono HB.out.size)); clear B HB
 go_wp2_with fail
 go_ret
 exact ⟨by unfold ZaU; rw [if_neg HV.out]; rfl, HB2.out⟩
set_option maxRecDepth 100000 in
theorem Zfc (d : Bool) (A : Option Addr) (c : Nat) (f g : Nat → Int) (x y : Int) (hx : IsI x) (hy : IsI y) (w : World) (hT : TabM w) (hp : Pts w A 3 c f g) :
  Calls Tryz.prog 196 #[.agg #[.bool d, .int .i64 0, .slice A 3 c], .pointer none, .agg #[.int .i64 x, .int .i64 y]] w fun e w' => e = .returned (.int .i64 (locR 0 f g 3 x y)) ∧ Below w.heap.size w w' := by
 have HT := η hT; have HP := η hp; clear hT hp
 have HX := η hx; have HY := η hy; clear hx hy
 go_enter Tryz.func196, Tryz.ntmps196
 go_wp2_with fail
 have HB := η (show Below w.heap.size w ((w.alloc (.cells #[.bool d, .int .i64 0, .slice A 3 c] 195)).alloc (.cells #[.int .i64 x, .int .i64 y] 23)) from J8 (J8 J0))
 refine (Zf7 A c _ _ _ _ _ _ x y (HP.out.p4 HX.out HY.out) _ (HT.out.below HB.out ν) (((HP.out.alloc _).alloc _).t3)).mono ?_
 rintro e w2 ⟨rfl, B⟩
 have HB2 := η (HB.out.trans (B.mono HB.out.size)); clear B HB
 go_wp2_with fail
 go_ret
 exact ⟨rfl, HB2.out⟩
set_option maxRecDepth 100000 in
theorem Zes (d : Bool) (v : Int) (hv : v ≠ 0) (A : Option Addr) (n c : Nat) (f g : Nat → Int) (x y : Int) (hx : IsI x) (hy : IsI y) (w : World) (hT : TabM w) (hp : Pts w A n c f g) :
  Calls Tryz.prog 203 #[.agg #[.bool d, .int .i64 v, .slice A n c], .pointer none, .agg #[.int .i64 x, .int .i64 y]] w fun e w' => e = .returned (.int .i64 (locR v f g n x y)) ∧ Below w.heap.size w w' := by
 have HT := η hT; have HP := η hp; clear hT hp
 have HX := η hx; have HY := η hy; have HV := η hv; clear hx hy hv
 go_enter Tryz.func203, Tryz.ntmps203
 go_wp2_with fail
 have HB := η (show Below w.heap.size w ((w.alloc (.cells #[.bool d, .int .i64 v, .slice A n c] 196)).alloc (.cells #[.int .i64 x, .int .i64 y] 23)) from J8 (J8 J0))
 refine (ZdK A n c f g x y HX.out HY.out _ (HT.out.below HB.out ν) ((HP.out.alloc _).alloc _)).mono ?_
 rintro e w2 ⟨rfl, B⟩
 have HB2 := η (HB.out.trans (B.mono HB.out.size)); clear B HB
 go_wp2_with fail
 go_ret
 exact ⟨by unfold locR; rw [if_neg HV.out]; rfl, HB2.out⟩
theorem ZfU (d : Bool) (v : Int) (A : Option Addr) (n c : Nat) (hn : (n : Int) = szf v) (f g : Nat → Int) (w : World) (hT : TabM w) (hp : Pts w A n c f g) :
  Calls Tryz.prog (Zbe v) #[.agg #[.bool d, .int .i64 v, .slice A n c], .pointer none] w fun e w' => e = .returned (.int .u64 (msk (ZaU v f g n))) ∧ Below w.heap.size w w' := by
 unfold Zbe; by_cases h : v = 0
 ·subst h; obtain rfl : n = 3 := by have : szf 0 = 3 := rfl; omega
  rw [if_pos rfl]; exact ZfT d A c f g w hT hp
 ·rw [if_neg h]; exact Zfb d v h A n c f g w hT hp
theorem Zci (d : Bool) (v : Int) (A : Option Addr) (n c : Nat) (hn : (n : Int) = szf v) (f g : Nat → Int) (x y : Int) (hx : IsI x) (hy : IsI y) (w : World) (hT : TabM w) (hp : Pts w A n c f g) :
  Calls Tryz.prog (ZaM v) #[.agg #[.bool d, .int .i64 v, .slice A n c], .pointer none, .agg #[.int .i64 x, .int .i64 y]] w fun e w' => e = .returned (.int .i64 (locR v f g n x y)) ∧ Below w.heap.size w w' := by
 unfold ZaM; by_cases h : v = 0
 ·subst h; obtain rfl : n = 3 := by have : szf 0 = 3 := rfl; omega
  rw [if_pos rfl]; exact Zfc d A c f g x y hx hy w hT hp
 ·rw [if_neg h]; exact Zes d v h A n c f g x y hx hy w hT hp
def vR (v : Nat → Int) (Q : Nat → Option Addr × Nat × Nat) (F G : Nat → Nat → Int) : Nat → Bool := fun i => ZaU (v i) (F i) (G i) (Q i).2.1
def lR (v : Nat → Int) (Q : Nat → Option Addr × Nat × Nat) (F G : Nat → Nat → Int) (x y : Int) : Nat → Bool := fun i => decide (0 ≤ locR (v i) (F i) (G i) (Q i).2.1 x y)
theorem Zet (x : Int) : (!decide (x < 0)) = decide (0 ≤ x) := by
 by_cases h : x < 0
 ·rw [decide_eq_true h, decide_eq_false (by omega)]; rfl
 ·rw [decide_eq_false h, decide_eq_true (by omega)]; rfl
set_option maxRecDepth 100000 in
theorem ZfV (A : Option Addr) (n c : Nat) (d : Nat → Bool) (v : Nat → Int) (Q : Nat → Option Addr × Nat × Nat) (F G : Nat → Nat → Int) (w : World) (hT : TabM w) (hr : Rgs w A n c d v Q) (hp : RgP w n Q F G) (ho : OkR n v Q) :
  Calls Tryz.prog 134 #[.pointer none, .slice A n c] w fun e w' => e = .returned (.int .u64 (msk (allB (vR v Q F G) n))) ∧ Below w.heap.size w w' := by
 have HT := η hT
 have HR := η hr
 have HP := η hp
 have HO := η ho
 have hcp := hr.cap
 have hmx := hr.max
 have h1 := ho.pos
 have h2 := ho.le
 have hm := Zi3
 have hm2 := ZgH
 clear hr ho hT hp
 unfold maxLen at hmx
 obtain ⟨b, off, rfl, hbl, hc⟩ := HR.out.at_ (by omega)
 have HC := η hc; have HBL := η hbl; clear hc hbl
 go_enter Tryz.func134, Tryz.ntmps134
 go_wp2_with fail
 refine (Zbt _ n c d v Q _ HR.out HO.out).mono ?_
 rintro e w2 ⟨rfl, B⟩
 have HB2 := η B; clear B
 go_wp2_with fail
 refine (Zi2 _).mono ?_
 rintro e w3 ⟨rfl, rfl⟩
 go_wp2_with fail
 go_loopw [5, 14] (fun mr ir wr => ∃ k : Nat, k ≤ n ∧ mr = .int .u64 (msk (allB (vR v Q F G) k)) ∧ ir = .int .i64 (k : Int) ∧ Below w.heap.size w wr) (fun _ i _ => n - (intOf i).toNat)
 case atStart => exact ⟨0, by omega, rfl, rfl, HB2.out⟩
 case round =>
  obtain ⟨k, hk, rfl, rfl, hb⟩ := hrel
  have HB := η hb; clear hb
  by_cases hlt : k < n
  ·have p0 : wr.cell? ⟨b, off + k * 3, none⟩ = some (.bool (d k)) := (HB.out.cell (p := ⟨b, off + k * 3, none⟩) HBL.out).trans (HC.out k hlt).1
   have p1 : wr.cell? ⟨b, off + k * 3 + 1, none⟩ = some (.int .i64 (v k)) := (HB.out.cell (p := ⟨b, off + k * 3 + 1, none⟩) HBL.out).trans (HC.out k hlt).2.1
   have p2 : wr.cell? ⟨b, off + k * 3 + 2, none⟩ = some (.slice (Q k).1 (Q k).2.1 (Q k).2.2) := (HB.out.cell (p := ⟨b, off + k * 3 + 2, none⟩) HBL.out).trans (HC.out k hlt).2.2
   have hms := η (show n - (intOf (.int .i64 ((k : Int) + 1))).toNat < n - (intOf (.int .i64 (k : Int))).toNat from by simp [intOf]; omega)
   go_wp2_with fail
   clear p0 p1 p2
   have HX := η (Bx.new wr #[.bool (d k), .int .i64 (v k), .slice (Q k).1 (Q k).2.1 (Q k).2.2] 48)
   have HB1 := η (HB.out.trans ((show Below wr.heap.size wr (wr.alloc (.cells #[.bool (d k), .int .i64 (v k), .slice (Q k).1 (Q k).2.1 (Q k).2.2] 48)) from J8 J0).mono HB.out.size)); clear HB
   refine (Ju _ _ _ _).mono ?_
   rintro e w4 ⟨rfl, rfl⟩
   have v0 := HX.out.cell 0 (v := .bool (d k)) rfl
   have v1 := HX.out.cell 1 (v := .int .i64 (v k)) rfl
   have v2 := HX.out.cell 2 (v := .slice (Q k).1 (Q k).2.1 (Q k).2.2) rfl
   go_wp2_with fail
   clear v0 v1 v2
   refine (ZaW (d k) (v k) _ _ _ _).mono ?_
   rintro e w5 ⟨rfl, B⟩
   have HB2 := η (HB1.out.trans (B.mono HB1.out.size)); clear B HB1 HX
   go_wp2_with fail
   refine (ZfU (d k) (v k) _ _ _ (HO.out.num k hlt) (F k) (G k) _ (HT.out.below HB2.out ν) ((HP.out.pts k hlt).below HB2.out ν)).mono ?_
   rintro e w6 ⟨rfl, B⟩
   have HB3 := η (HB2.out.trans (B.mono HB2.out.size)); clear B HB2
   have hand := and_msk (allB (vR v Q F G) k) (ZaU (v k) (F k) (G k) (Q k).2.1)
   go_wp2_with fail
   go_roundw
   case rel => exact ⟨k + 1, hlt, rfl, by go_num, HB3.out⟩
   case measure => exact hms.out
  ·obtain rfl : k = n := by omega
   go_wp2_with fail
   go_ret
   exact ⟨rfl, HB.out⟩
theorem ZgI (a b : Bool) : -1 ≤ sgnM a b ∧ sgnM a b ≤ 1 := by cases a <;> cases b <;> decide
theorem Zfd {v : Int} {f g : Nat → Int} {n : Nat} {x y : Int} : IsI (locR v f g n x y) := by
 unfold locR IsI; split
 ·have := Zcg (circ (f 0) (g 0) (f 1) (g 1) (f 2) (g 2) x y) (det (f 0) (g 0) (f 1) (g 1) (f 2) (g 2)); omega
 ·unfold locP; split
  ·have := ZgI (anyB (fun i => decide (Jm f g n x y i < 0)) n) (anyB (fun i => decide (Jm f g n x y i = 0)) n); omega
  ·decide
theorem Zk0 (v : Nat → Int) (Q : Nat → Option Addr × Nat × Nat) (F G : Nat → Nat → Int) (x y : Int) (k : Nat) : (!decide (locR (v k) (F k) (G k) (Q k).2.1 x y < 0)) = lR v Q F G x y k := Zet _
def alR (d : Nat → Bool) (L : Nat → Bool) : Nat → Bool := anyB (fun i => L i && !d i)
def deR (d : Nat → Bool) (L : Nat → Bool) : Nat → Bool := anyB (fun i => L i && d i)
def memR (d : Nat → Bool) (L : Nat → Bool) (n : Nat) : Bool := alR d L n && !deR d L n
theorem ZgJ (a b : Bool) : bits .andNot .u64 (msk a) (msk b) = msk (a && !b) := by cases a <;> cases b <;> rfl
set_option maxRecDepth 100000 in
theorem Zfe (A : Option Addr) (n c : Nat) (d : Nat → Bool) (v : Nat → Int) (Q : Nat → Option Addr × Nat × Nat) (F G : Nat → Nat → Int) (x y : Int) (hx : IsI x) (hy : IsI y) (w : World) (hT : TabM w) (hr : Rgs w A n c d v Q) (hp : RgP w n Q F G) (ho : OkR n v Q) :
  Calls Tryz.prog 138 #[.pointer none, .slice A n c, .agg #[.int .i64 x, .int .i64 y]] w fun e w' => e = .returned (.int .u64 (msk (memR d (lR v Q F G x y) n))) ∧ Below w.heap.size w w' := by
 have HT := η hT
 have HR := η hr
 have HP := η hp
 have HO := η ho
 have HX := η hx
 have HY := η hy
 have hcp := hr.cap
 have hmx := hr.max
 have h1 := ho.pos
 have h2 := ho.le
 have hm := Zhg
 have hm2 := ZfS
 clear hr ho hT hp hx hy
 unfold maxLen at hmx
 obtain ⟨b, off, rfl, hbl, hc⟩ := HR.out.at_ (by omega)
 have HC := η hc; have HBL := η hbl; clear hc hbl
 go_enter Tryz.func138, Tryz.ntmps138
 go_wp2_with fail
 have HB1 := η (show Below w.heap.size w (w.alloc (.cells #[.int .i64 x, .int .i64 y] 23)) from J8 J0)
 have FP := η (Bx.new w #[.int .i64 x, .int .i64 y] 23)
 generalize w.alloc (.cells #[.int .i64 x, .int .i64 y] 23) = w1 at *
 refine (Zbt _ n c d v Q _ (HR.out.below HB1.out ν) HO.out).mono ?_
 rintro e w2 ⟨rfl, B⟩
 have FP2 := η (FP.out.below B ν)
 have HB2 := η (HB1.out.trans (B.mono HB1.out.size)); clear B HB1 FP
 go_wp2_with fail
 have HB3 := η (HB2.out.trans ((show Below w2.heap.size w2 (w2.alloc (.cells #[.int .u64 0, .int .u64 0] 154)) from J8 J0).mono HB2.out.size))
 have FI3 := η (Bx.new w2 #[.int .u64 0, .int .u64 0] 154)
 have FP3 := η (FP2.out.alloc (.cells #[.int .u64 0, .int .u64 0] 154))
 have HIB := η (show w.heap.size ≤ w2.heap.size from HB2.out.size)
 have HNE := η (show w.heap.size ≠ w2.heap.size from by have := FP2.out.lt; omega)
 clear HB2 FP2
 generalize (w2.alloc (.cells #[.int .u64 0, .int .u64 0] 154)) = w3 at *
 go_loopw [16] (fun ir wr => ∃ k : Nat, k ≤ n ∧ ir = .int .i64 (k : Int) ∧ Bx wr w2.heap.size #[.int .u64 (msk (alR d (lR v Q F G x y) k)), .int .u64 (msk (deR d (lR v Q F G x y) k))] 154 ∧ Bx wr w.heap.size #[.int .i64 x, .int .i64 y] 23 ∧ Below w.heap.size w wr) (fun i _ => n - (intOf i).toNat)
 case atStart => exact ⟨0, by omega, rfl, FI3.out, FP3.out, HB3.out⟩
 case round =>
  obtain ⟨k, hk, rfl, hi, hpt, hb⟩ := hrel
  have HB := η hb; have HI := η hi; have HPT := η hpt; clear hb hi hpt
  by_cases hlt : k < n
  ·have p0 : wr.cell? ⟨b, off + k * 3, none⟩ = some (.bool (d k)) := (HB.out.cell (p := ⟨b, off + k * 3, none⟩) HBL.out).trans (HC.out k hlt).1
   have p1 : wr.cell? ⟨b, off + k * 3 + 1, none⟩ = some (.int .i64 (v k)) := (HB.out.cell (p := ⟨b, off + k * 3 + 1, none⟩) HBL.out).trans (HC.out k hlt).2.1
   have p2 : wr.cell? ⟨b, off + k * 3 + 2, none⟩ = some (.slice (Q k).1 (Q k).2.1 (Q k).2.2) := (HB.out.cell (p := ⟨b, off + k * 3 + 2, none⟩) HBL.out).trans (HC.out k hlt).2.2
   have hms := η (show n - (intOf (.int .i64 ((k : Int) + 1))).toNat < n - (intOf (.int .i64 (k : Int))).toNat from by simp [intOf]; omega)
   go_wp2_with fail
   clear p0 p1 p2
   have FX := η (Bx.new wr #[.bool (d k), .int .i64 (v k), .slice (Q k).1 (Q k).2.1 (Q k).2.2] 48)
   have C := η (show Below wr.heap.size wr (wr.alloc (.cells #[.bool (d k), .int .i64 (v k), .slice (Q k).1 (Q k).2.1 (Q k).2.2] 48)) from J8 J0)
   have HB1 := η (HB.out.trans (C.out.mono HB.out.size))
   have FI := η (HI.out.alloc (.cells #[.bool (d k), .int .i64 (v k), .slice (Q k).1 (Q k).2.1 (Q k).2.2] 48))
   have FP := η (HPT.out.alloc (.cells #[.bool (d k), .int .i64 (v k), .slice (Q k).1 (Q k).2.1 (Q k).2.2] 48))
   have HXN := η (show w.heap.size ≤ wr.heap.size ∧ w2.heap.size < wr.heap.size from ⟨HB.out.size, HI.out.lt⟩)
   clear C HB HI HPT
   obtain ⟨rb, hrb⟩ : ∃ rb, rb = wr.heap.size := ⟨_, rfl⟩
   generalize (wr.alloc (.cells #[.bool (d k), .int .i64 (v k), .slice (Q k).1 (Q k).2.1 (Q k).2.2] 48)) = w4 at *
   refine (Ju _ _ _ _).mono ?_
   rintro e w5 ⟨rfl, rfl⟩
   have FT := η (HT.out.below HB1.out ν)
   have FQ := η ((HP.out.pts k hlt).below HB1.out ν)
   have hnot := ZdI (decide (locR (v k) (F k) (G k) (Q k).2.1 x y < 0))
   rw [Zk0] at hnot
   have HN9 := η (show bits BinOp.xor IntKind.u64 (if IntKind.u64.signed = true then -1 else IntKind.u64.max) (msk (decide (locR (v k) (F k) (G k) (Q k).2.1 x y < 0))) = msk (lR v Q F G x y k) from hnot)
   clear hnot
   have hor1 := ZbH (alR d (lR v Q F G x y) k) (lR v Q F G x y k)
   have hor2 := ZbH (deR d (lR v Q F G x y) k) (lR v Q F G x y k)
   have v0 := FX.out.cell 0 (v := .bool (d k)) rfl
   cases hd : d k
   ·rw [hd] at v0
    have HD := η hd; clear hd
    go_wp2_with fail
    clear v0
    refine (wpIn_wide (n := 0)).1 ?_
    refine wpIn_region_any (by kernel_rfl) ?_
    change wpAnyIn _ _ _ _ _ _ _ _ _ (World.drew _)
    have RB10 := η (Je w4)
    refine Jk WideF.wide (fun a b => Below a.heap.size a b) (fun _ => J0) (fun _ _ _ h k => J6 h k) [⟨0, 26, fun z_ _ => z_ = .int .i64 0⟩, ⟨1, 27, fun z_ _ => z_ = .pointer (some ⟨w2.heap.size, 0, none⟩)⟩, ⟨2, 28, fun z_ _ => z_ = .int .u64 (msk (alR d (lR v Q F G x y) k))⟩, ⟨3, 29, fun z_ _ => z_ = .agg #[.bool (d k), .int .i64 (v k), .slice (Q k).1 (Q k).2.1 (Q k).2.2]⟩, ⟨4, 30, fun z_ _ => z_ = .iface (tyf (v k)) (.agg #[.bool (d k), .int .i64 (v k), .slice (Q k).1 (Q k).2.1 (Q k).2.2])⟩, ⟨5, 31, fun z_ _ => z_ = .pointer none⟩, ⟨6, 32, fun z_ _ => z_ = .agg #[.int .i64 x, .int .i64 y]⟩, ⟨7, 33, fun z_ _ => z_ = .int .i64 (locR (v k) (F k) (G k) (Q k).2.1 x y)⟩, ⟨8, 34, fun z_ _ => z_ = .int .u64 (msk (decide (locR (v k) (F k) (G k) (Q k).2.1 x y < 0)))⟩, ⟨9, 35, fun z_ _ => z_ = .int .u64 (msk (lR v Q F G x y k))⟩, ⟨10, 36, fun z_ _ => z_ = .int .u64 (msk (alR d (lR v Q F G x y) k || lR v Q F G x y k))⟩] 11 (by kernel_rfl) ?_ ?_ ?_
    ·refine ⟨?_, ?_, ?_, ?_, ?_, ?_, ?_, ?_, ?_, ?_, ?_, trivial⟩
     all_goals (intro x w w' hb h; first | exact h | (obtain ⟨b_, h1, h2⟩ := h; exact ⟨b_, h1, h2.below hb ν⟩))
    ·refine ⟨?_, ?_, ?_, ?_, ?_, ?_, ?_, ?_, ?_, ?_, ?_, trivial⟩
     ·intro a wz K hb ht hd hK
      have hbw := η (J6 RB10.out hb); clear hb
      have hx10 := (ht 10 rfl).trans rfl
      have es10 : a.tmps.getD 10 undef = _ := J7 hx10; clear hx10
      clear ht hd
      have HK := η hK; clear hK
      refine oP (fun K' HK' => ?_)
      go_simp
      exact HK'.out _ _ (HK.out _ _ J0 rfl)
     ·intro a wz K hb ht hd hK
      have hbw := η (J6 RB10.out hb); clear hb
      have hx7 := (ht 7 rfl).trans rfl
      have es7 : a.tmps.getD 7 undef = _ := J7 hx7; clear hx7
      obtain ⟨x26, hx26, hp26⟩ := hd 0 _ rfl (by kernel_rfl)
      obtain rfl := hp26
      have es26 : a.tmps.getD 26 undef = _ := J7 hx26; clear hx26
      clear ht hd
      have HK := η hK; clear hK
      refine oP (fun K' HK' => ?_)
      go_simp
      exact HK'.out _ _ (HK.out _ _ J0 rfl)
     ·intro a wz K hb ht hd hK
      have hbw := η (J6 RB10.out hb); clear hb
      obtain ⟨x27, hx27, hp27⟩ := hd 1 _ rfl (by kernel_rfl)
      obtain rfl := hp27
      have es27 : a.tmps.getD 27 undef = _ := J7 hx27; clear hx27
      clear ht hd
      have zc0 := (FI.out.below hbw.out ν).cell 0 (v := .int .u64 (msk (alR d (lR v Q F G x y) k))) rfl
      have HK := η hK; clear hK
      refine oP (fun K' HK' => ?_)
      go_simp
      exact HK'.out _ _ (HK.out _ _ J0 rfl)
     ·intro a wz K hb ht hd hK
      have hbw := η (J6 RB10.out hb); clear hb
      have hx9 := (ht 9 rfl).trans rfl
      have es9 : a.tmps.getD 9 undef = _ := J7 hx9; clear hx9
      clear ht hd
      have zc0 := (FX.out.below hbw.out ν).cell 0 (v := .bool (d k)) rfl
      have zc1 := (FX.out.below hbw.out ν).cell 1 (v := .int .i64 (v k)) rfl
      have zc2 := (FX.out.below hbw.out ν).cell 2 (v := .slice (Q k).1 (Q k).2.1 (Q k).2.2) rfl
      have HK := η hK; clear hK
      refine oP (fun K' HK' => ?_)
      go_simp
      exact HK'.out _ _ (HK.out _ _ J0 rfl)
     ·intro a wz K hb ht hd hK
      have hbw := η (J6 RB10.out hb); clear hb
      obtain ⟨x29, hx29, hp29⟩ := hd 3 _ rfl (by kernel_rfl)
      obtain rfl := hp29
      have es29 : a.tmps.getD 29 undef = _ := J7 hx29; clear hx29
      clear ht hd
      have HK := η hK; clear hK
      refine oP (fun K' HK' => ?_)
      go_simp
      refine (ZaW (d k) (v k) _ _ _ _).mono ?_
      rintro e w1 ⟨rfl, B⟩
      go_wp2_with fail
      exact HK'.out _ _ (HK.out _ _ B rfl)
     ·intro a wz K hb ht hd hK
      have hbw := η (J6 RB10.out hb); clear hb
      have hx0 := (ht 0 rfl).trans rfl
      have es0 : a.tmps.getD 0 undef = _ := J7 hx0; clear hx0
      clear ht hd
      have HK := η hK; clear hK
      refine oP (fun K' HK' => ?_)
      go_simp
      exact HK'.out _ _ (HK.out _ _ J0 rfl)
     ·intro a wz K hb ht hd hK
      have hbw := η (J6 RB10.out hb); clear hb
      have hx5 := (ht 5 rfl).trans rfl
      have es5 : a.tmps.getD 5 undef = _ := J7 hx5; clear hx5
      clear ht hd
      have zc0 := (FP.out.below hbw.out ν).cell 0 (v := .int .i64 x) rfl
      have zc1 := (FP.out.below hbw.out ν).cell 1 (v := .int .i64 y) rfl
      have HK := η hK; clear hK
      refine oP (fun K' HK' => ?_)
      go_simp
      exact HK'.out _ _ (HK.out _ _ J0 rfl)
     ·intro a wz K hb ht hd hK
      have hbw := η (J6 RB10.out hb); clear hb
      obtain ⟨x30, hx30, hp30⟩ := hd 4 _ rfl (by kernel_rfl)
      obtain rfl := hp30
      have es30 : a.tmps.getD 30 undef = _ := J7 hx30; clear hx30
      obtain ⟨x31, hx31, hp31⟩ := hd 5 _ rfl (by kernel_rfl)
      obtain rfl := hp31
      have es31 : a.tmps.getD 31 undef = _ := J7 hx31; clear hx31
      obtain ⟨x32, hx32, hp32⟩ := hd 6 _ rfl (by kernel_rfl)
      obtain rfl := hp32
      have es32 : a.tmps.getD 32 undef = _ := J7 hx32; clear hx32
      clear ht hd
      have HK := η hK; clear hK
      refine oP (fun K' HK' => ?_)
      go_simp
      refine (Zci (d k) (v k) _ _ _ (HO.out.num k hlt) (F k) (G k) x y HX.out HY.out _ (FT.out.below hbw.out ν) (FQ.out.below hbw.out ν)).mono ?_
      rintro e w1 ⟨rfl, B⟩
      go_wp2_with fail
      exact HK'.out _ _ (HK.out _ _ B rfl)
     ·intro a wz K hb ht hd hK
      have hbw := η (J6 RB10.out hb); clear hb
      obtain ⟨x33, hx33, hp33⟩ := hd 7 _ rfl (by kernel_rfl)
      obtain rfl := hp33
      have es33 : a.tmps.getD 33 undef = _ := J7 hx33; clear hx33
      clear ht hd
      have HK := η hK; clear hK
      refine oP (fun K' HK' => ?_)
      go_simp
      refine (Zao _ Zfd _).mono ?_
      rintro e w1 ⟨rfl, rfl⟩
      go_wp2_with fail
      exact HK'.out _ _ (HK.out _ _ J0 rfl)
     ·intro a wz K hb ht hd hK
      have hbw := η (J6 RB10.out hb); clear hb
      obtain ⟨x34, hx34, hp34⟩ := hd 8 _ rfl (by kernel_rfl)
      obtain rfl := hp34
      have es34 : a.tmps.getD 34 undef = _ := J7 hx34; clear hx34
      clear ht hd
      have HK := η hK; clear hK
      refine oP (fun K' HK' => ?_)
      go_simp
      exact HK'.out _ _ (HK.out _ _ J0 (congrArg (Value.int .u64) HN9.out))
     ·intro a wz K hb ht hd hK
      have hbw := η (J6 RB10.out hb); clear hb
      obtain ⟨x28, hx28, hp28⟩ := hd 2 _ rfl (by kernel_rfl)
      obtain rfl := hp28
      have es28 : a.tmps.getD 28 undef = _ := J7 hx28; clear hx28
      obtain ⟨x35, hx35, hp35⟩ := hd 9 _ rfl (by kernel_rfl)
      obtain rfl := hp35
      have es35 : a.tmps.getD 35 undef = _ := J7 hx35; clear hx35
      clear ht hd
      have HK := η hK; clear hK
      refine oP (fun K' HK' => ?_)
      go_simp
      exact HK'.out _ _ (HK.out _ _ J0 rfl)
    intro w11 X hb hv
    simp only [List.foldl_cons, List.foldl_nil, Act.put, List.setIfInBounds_toArray, List.set_cons_zero, List.set_cons_succ, List.toList_toArray, List.drop_succ_cons, List.drop_zero]
    obtain ⟨hv0, hv1, hv2, hv3, hv4, hv5, hv6, hv7, hv8, hv9, hv10, -⟩ := hv
    have hV0 : (fun z_ _ => z_ = .int .i64 0) (X 26) w11 := hv0; clear hv0; have hv0 := hV0; clear hV0; generalize X 26 = X26 at *
    have hV1 : (fun z_ _ => z_ = .pointer (some ⟨w2.heap.size, 0, none⟩)) (X 27) w11 := hv1; clear hv1; have hv1 := hV1; clear hV1; generalize X 27 = X27 at *
    have hV2 : (fun z_ _ => z_ = .int .u64 (msk (alR d (lR v Q F G x y) k))) (X 28) w11 := hv2; clear hv2; have hv2 := hV2; clear hV2; generalize X 28 = X28 at *
    have hV3 : (fun z_ _ => z_ = .agg #[.bool (d k), .int .i64 (v k), .slice (Q k).1 (Q k).2.1 (Q k).2.2]) (X 29) w11 := hv3; clear hv3; have hv3 := hV3; clear hV3; generalize X 29 = X29 at *
    have hV4 : (fun z_ _ => z_ = .iface (tyf (v k)) (.agg #[.bool (d k), .int .i64 (v k), .slice (Q k).1 (Q k).2.1 (Q k).2.2])) (X 30) w11 := hv4; clear hv4; have hv4 := hV4; clear hV4; generalize X 30 = X30 at *
    have hV5 : (fun z_ _ => z_ = .pointer none) (X 31) w11 := hv5; clear hv5; have hv5 := hV5; clear hV5; generalize X 31 = X31 at *
    have hV6 : (fun z_ _ => z_ = .agg #[.int .i64 x, .int .i64 y]) (X 32) w11 := hv6; clear hv6; have hv6 := hV6; clear hV6; generalize X 32 = X32 at *
    have hV7 : (fun z_ _ => z_ = .int .i64 (locR (v k) (F k) (G k) (Q k).2.1 x y)) (X 33) w11 := hv7; clear hv7; have hv7 := hV7; clear hV7; generalize X 33 = X33 at *
    have hV8 : (fun z_ _ => z_ = .int .u64 (msk (decide (locR (v k) (F k) (G k) (Q k).2.1 x y < 0)))) (X 34) w11 := hv8; clear hv8; have hv8 := hV8; clear hV8; generalize X 34 = X34 at *
    have hV9 : (fun z_ _ => z_ = .int .u64 (msk (lR v Q F G x y k))) (X 35) w11 := hv9; clear hv9; have hv9 := hV9; clear hV9; generalize X 35 = X35 at *
    have hV10 : (fun z_ _ => z_ = .int .u64 (msk (alR d (lR v Q F G x y) k || lR v Q F G x y k))) (X 36) w11 := hv10; clear hv10; have hv10 := hV10; clear hV10; generalize X 36 = X36 at *
    obtain rfl := hv0
    obtain rfl := hv1
    obtain rfl := hv2
    obtain rfl := hv3
    obtain rfl := hv4
    obtain rfl := hv5
    obtain rfl := hv6
    obtain rfl := hv7
    obtain rfl := hv8
    obtain rfl := hv9
    obtain rfl := hv10
    have RC := η (J6 RB10.out hb); clear hb
    have FT_11 := η (FT.out.below RC.out ν)
    have FQ_11 := η (FQ.out.below RC.out ν)
    have FX_11 := η (FX.out.below RC.out ν)
    have FI_11 := η (FI.out.below RC.out ν)
    have FP_11 := η (FP.out.below RC.out ν)
    have HB11 := η (HB1.out.trans (RC.out.mono HB1.out.size))
    clear HB1 FT FQ FX FI FP RB10
    have q0 := FI_11.out.cell 0 (v := .int .u64 (msk (alR d (lR v Q F G x y) k))) rfl; have z0 := FI_11.out.free 0
    gi_wp2_with fail
    have HI9 := η (show Bx (w11.setCell ⟨w2.heap.size, 0, none⟩ (.int .u64 (msk (alR d (lR v Q F G x y) k || lR v Q F G x y k)))) w2.heap.size #[.int .u64 (msk (alR d (lR v Q F G x y) k || lR v Q F G x y k)), .int .u64 (msk (deR d (lR v Q F G x y) k))] 154 from FI_11.out.set 0 _)
    have HP9 := η (show Bx (w11.setCell ⟨w2.heap.size, 0, none⟩ (.int .u64 (msk (alR d (lR v Q F G x y) k || lR v Q F G x y k)))) w.heap.size #[.int .i64 x, .int .i64 y] 23 from FP_11.out.other _ HNE.out)
    have HB9 := η (show Below w.heap.size w (w11.setCell ⟨w2.heap.size, 0, none⟩ (.int .u64 (msk (alR d (lR v Q F G x y) k || lR v Q F G x y k)))) from J9 HIB.out HB11.out)
    have HA := η (show alR d (lR v Q F G x y) (k + 1) = (alR d (lR v Q F G x y) k || lR v Q F G x y k) from by unfold alR; rw [anyB, HD.out]; simp)
    have HE := η (show deR d (lR v Q F G x y) (k + 1) = deR d (lR v Q F G x y) k from by unfold deR; rw [anyB, HD.out]; simp)
    go_wp2_with fail
    go_roundw
    case rel => exact ⟨k + 1, hlt, by go_num, by rw [HA.out, HE.out]; exact HI9.out, HP9.out, HB9.out⟩
    case measure => exact hms.out
   ·rw [hd] at v0
    have HD := η hd; clear hd
    go_wp2_with fail
    clear v0
    refine (wpIn_wide (n := 0)).1 ?_
    refine wpIn_region_any (by kernel_rfl) ?_
    change wpAnyIn _ _ _ _ _ _ _ _ _ (World.drew _)
    have RB10 := η (Je w4)
    refine Jk WideF.wide (fun a b => Below a.heap.size a b) (fun _ => J0) (fun _ _ _ h k => J6 h k) [⟨0, 26, fun z_ _ => z_ = .int .i64 1⟩, ⟨1, 27, fun z_ _ => z_ = .pointer (some ⟨w2.heap.size, 1, none⟩)⟩, ⟨2, 28, fun z_ _ => z_ = .int .u64 (msk (deR d (lR v Q F G x y) k))⟩, ⟨3, 29, fun z_ _ => z_ = .agg #[.bool (d k), .int .i64 (v k), .slice (Q k).1 (Q k).2.1 (Q k).2.2]⟩, ⟨4, 30, fun z_ _ => z_ = .iface (tyf (v k)) (.agg #[.bool (d k), .int .i64 (v k), .slice (Q k).1 (Q k).2.1 (Q k).2.2])⟩, ⟨5, 31, fun z_ _ => z_ = .pointer none⟩, ⟨6, 32, fun z_ _ => z_ = .agg #[.int .i64 x, .int .i64 y]⟩, ⟨7, 33, fun z_ _ => z_ = .int .i64 (locR (v k) (F k) (G k) (Q k).2.1 x y)⟩, ⟨8, 34, fun z_ _ => z_ = .int .u64 (msk (decide (locR (v k) (F k) (G k) (Q k).2.1 x y < 0)))⟩, ⟨9, 35, fun z_ _ => z_ = .int .u64 (msk (lR v Q F G x y k))⟩, ⟨10, 36, fun z_ _ => z_ = .int .u64 (msk (deR d (lR v Q F G x y) k || lR v Q F G x y k))⟩] 11 (by kernel_rfl) ?_ ?_ ?_
    ·refine ⟨?_, ?_, ?_, ?_, ?_, ?_, ?_, ?_, ?_, ?_, ?_, trivial⟩
     all_goals (intro x w w' hb h; first | exact h | (obtain ⟨b_, h1, h2⟩ := h; exact ⟨b_, h1, h2.below hb ν⟩))
    ·refine ⟨?_, ?_, ?_, ?_, ?_, ?_, ?_, ?_, ?_, ?_, ?_, trivial⟩
     ·intro a wz K hb ht hd hK
      have hbw := η (J6 RB10.out hb); clear hb
      have hx10 := (ht 10 rfl).trans rfl
      have es10 : a.tmps.getD 10 undef = _ := J7 hx10; clear hx10
      clear ht hd
      have HK := η hK; clear hK
      refine oP (fun K' HK' => ?_)
      go_simp
      exact HK'.out _ _ (HK.out _ _ J0 rfl)
     ·intro a wz K hb ht hd hK
      have hbw := η (J6 RB10.out hb); clear hb
      have hx7 := (ht 7 rfl).trans rfl
      have es7 : a.tmps.getD 7 undef = _ := J7 hx7; clear hx7
      obtain ⟨x26, hx26, hp26⟩ := hd 0 _ rfl (by kernel_rfl)
      obtain rfl := hp26
      have es26 : a.tmps.getD 26 undef = _ := J7 hx26; clear hx26
      clear ht hd
      have HK := η hK; clear hK
      refine oP (fun K' HK' => ?_)
      go_simp
      exact HK'.out _ _ (HK.out _ _ J0 rfl)
     ·intro a wz K hb ht hd hK
      have hbw := η (J6 RB10.out hb); clear hb
      obtain ⟨x27, hx27, hp27⟩ := hd 1 _ rfl (by kernel_rfl)
      obtain rfl := hp27
      have es27 : a.tmps.getD 27 undef = _ := J7 hx27; clear hx27
      clear ht hd
      have zc0 := (FI.out.below hbw.out ν).cell 1 (v := .int .u64 (msk (deR d (lR v Q F G x y) k))) rfl
      have HK := η hK; clear hK
      refine oP (fun K' HK' => ?_)
      go_simp
      exact HK'.out _ _ (HK.out _ _ J0 rfl)
     ·intro a wz K hb ht hd hK
      have hbw := η (J6 RB10.out hb); clear hb
      have hx9 := (ht 9 rfl).trans rfl
      have es9 : a.tmps.getD 9 undef = _ := J7 hx9; clear hx9
      clear ht hd
      have zc0 := (FX.out.below hbw.out ν).cell 0 (v := .bool (d k)) rfl
      have zc1 := (FX.out.below hbw.out ν).cell 1 (v := .int .i64 (v k)) rfl
      have zc2 := (FX.out.below hbw.out ν).cell 2 (v := .slice (Q k).1 (Q k).2.1 (Q k).2.2) rfl
      have HK := η hK; clear hK
      refine oP (fun K' HK' => ?_)
      go_simp
      exact HK'.out _ _ (HK.out _ _ J0 rfl)
     ·intro a wz K hb ht hd hK
      have hbw := η (J6 RB10.out hb); clear hb
      obtain ⟨x29, hx29, hp29⟩ := hd 3 _ rfl (by kernel_rfl)
      obtain rfl := hp29
      have es29 : a.tmps.getD 29 undef = _ := J7 hx29; clear hx29
      clear ht hd
      have HK := η hK; clear hK
      refine oP (fun K' HK' => ?_)
      go_simp
      refine (ZaW (d k) (v k) _ _ _ _).mono ?_
      rintro e w1 ⟨rfl, B⟩
      go_wp2_with fail
      exact HK'.out _ _ (HK.out _ _ B rfl)
     ·intro a wz K hb ht hd hK
      have hbw := η (J6 RB10.out hb); clear hb
      have hx0 := (ht 0 rfl).trans rfl
      have es0 : a.tmps.getD 0 undef = _ := J7 hx0; clear hx0
      clear ht hd
      have HK := η hK; clear hK
      refine oP (fun K' HK' => ?_)
      go_simp
      exact HK'.out _ _ (HK.out _ _ J0 rfl)
     ·intro a wz K hb ht hd hK
      have hbw := η (J6 RB10.out hb); clear hb
      have hx5 := (ht 5 rfl).trans rfl
      have es5 : a.tmps.getD 5 undef = _ := J7 hx5; clear hx5
      clear ht hd
      have zc0 := (FP.out.below hbw.out ν).cell 0 (v := .int .i64 x) rfl
      have zc1 := (FP.out.below hbw.out ν).cell 1 (v := .int .i64 y) rfl
      have HK := η hK; clear hK
      refine oP (fun K' HK' => ?_)
      go_simp
      exact HK'.out _ _ (HK.out _ _ J0 rfl)
     ·intro a wz K hb ht hd hK
      have hbw := η (J6 RB10.out hb); clear hb
      obtain ⟨x30, hx30, hp30⟩ := hd 4 _ rfl (by kernel_rfl)
      obtain rfl := hp30
      have es30 : a.tmps.getD 30 undef = _ := J7 hx30; clear hx30
      obtain ⟨x31, hx31, hp31⟩ := hd 5 _ rfl (by kernel_rfl)
      obtain rfl := hp31
      have es31 : a.tmps.getD 31 undef = _ := J7 hx31; clear hx31
      obtain ⟨x32, hx32, hp32⟩ := hd 6 _ rfl (by kernel_rfl)
      obtain rfl := hp32
      have es32 : a.tmps.getD 32 undef = _ := J7 hx32; clear hx32
      clear ht hd
      have HK := η hK; clear hK
      refine oP (fun K' HK' => ?_)
      go_simp
      refine (Zci (d k) (v k) _ _ _ (HO.out.num k hlt) (F k) (G k) x y HX.out HY.out _ (FT.out.below hbw.out ν) (FQ.out.below hbw.out ν)).mono ?_
      rintro e w1 ⟨rfl, B⟩
      go_wp2_with fail
      exact HK'.out _ _ (HK.out _ _ B rfl)
     ·intro a wz K hb ht hd hK
      have hbw := η (J6 RB10.out hb); clear hb
      obtain ⟨x33, hx33, hp33⟩ := hd 7 _ rfl (by kernel_rfl)
      obtain rfl := hp33
      have es33 : a.tmps.getD 33 undef = _ := J7 hx33; clear hx33
      clear ht hd
      have HK := η hK; clear hK
      refine oP (fun K' HK' => ?_)
      go_simp
      refine (Zao _ Zfd _).mono ?_
      rintro e w1 ⟨rfl, rfl⟩
      go_wp2_with fail
      exact HK'.out _ _ (HK.out _ _ J0 rfl)
     ·intro a wz K hb ht hd hK
      have hbw := η (J6 RB10.out hb); clear hb
      obtain ⟨x34, hx34, hp34⟩ := hd 8 _ rfl (by kernel_rfl)
      obtain rfl := hp34
      have es34 : a.tmps.getD 34 undef = _ := J7 hx34; clear hx34
      clear ht hd
      have HK := η hK; clear hK
      refine oP (fun K' HK' => ?_)
      go_simp
      exact HK'.out _ _ (HK.out _ _ J0 (congrArg (Value.int .u64) HN9.out))
     ·intro a wz K hb ht hd hK
      have hbw := η (J6 RB10.out hb); clear hb
      obtain ⟨x28, hx28, hp28⟩ := hd 2 _ rfl (by kernel_rfl)
      obtain rfl := hp28
      have es28 : a.tmps.getD 28 undef = _ := J7 hx28; clear hx28
      obtain ⟨x35, hx35, hp35⟩ := hd 9 _ rfl (by kernel_rfl)
      obtain rfl := hp35
      have es35 : a.tmps.getD 35 undef = _ := J7 hx35; clear hx35
      clear ht hd
      have HK := η hK; clear hK
      refine oP (fun K' HK' => ?_)
      go_simp
      exact HK'.out _ _ (HK.out _ _ J0 rfl)
    intro w11 X hb hv
    simp only [List.foldl_cons, List.foldl_nil, Act.put, List.setIfInBounds_toArray, List.set_cons_zero, List.set_cons_succ, List.toList_toArray, List.drop_succ_cons, List.drop_zero]
    obtain ⟨hv0, hv1, hv2, hv3, hv4, hv5, hv6, hv7, hv8, hv9, hv10, -⟩ := hv
    have hV0 : (fun z_ _ => z_ = .int .i64 1) (X 26) w11 := hv0; clear hv0; have hv0 := hV0; clear hV0; generalize X 26 = X26 at *
    have hV1 : (fun z_ _ => z_ = .pointer (some ⟨w2.heap.size, 1, none⟩)) (X 27) w11 := hv1; clear hv1; have hv1 := hV1; clear hV1; generalize X 27 = X27 at *
    have hV2 : (fun z_ _ => z_ = .int .u64 (msk (deR d (lR v Q F G x y) k))) (X 28) w11 := hv2; clear hv2; have hv2 := hV2; clear hV2; generalize X 28 = X28 at *
    have hV3 : (fun z_ _ => z_ = .agg #[.bool (d k), .int .i64 (v k), .slice (Q k).1 (Q k).2.1 (Q k).2.2]) (X 29) w11 := hv3; clear hv3; have hv3 := hV3; clear hV3; generalize X 29 = X29 at *
    have hV4 : (fun z_ _ => z_ = .iface (tyf (v k)) (.agg #[.bool (d k), .int .i64 (v k), .slice (Q k).1 (Q k).2.1 (Q k).2.2])) (X 30) w11 := hv4; clear hv4; have hv4 := hV4; clear hV4; generalize X 30 = X30 at *
    have hV5 : (fun z_ _ => z_ = .pointer none) (X 31) w11 := hv5; clear hv5; have hv5 := hV5; clear hV5; generalize X 31 = X31 at *
    have hV6 : (fun z_ _ => z_ = .agg #[.int .i64 x, .int .i64 y]) (X 32) w11 := hv6; clear hv6; have hv6 := hV6; clear hV6; generalize X 32 = X32 at *
    have hV7 : (fun z_ _ => z_ = .int .i64 (locR (v k) (F k) (G k) (Q k).2.1 x y)) (X 33) w11 := hv7; clear hv7; have hv7 := hV7; clear hV7; generalize X 33 = X33 at *
    have hV8 : (fun z_ _ => z_ = .int .u64 (msk (decide (locR (v k) (F k) (G k) (Q k).2.1 x y < 0)))) (X 34) w11 := hv8; clear hv8; have hv8 := hV8; clear hV8; generalize X 34 = X34 at *
    have hV9 : (fun z_ _ => z_ = .int .u64 (msk (lR v Q F G x y k))) (X 35) w11 := hv9; clear hv9; have hv9 := hV9; clear hV9; generalize X 35 = X35 at *
    have hV10 : (fun z_ _ => z_ = .int .u64 (msk (deR d (lR v Q F G x y) k || lR v Q F G x y k))) (X 36) w11 := hv10; clear hv10; have hv10 := hV10; clear hV10; generalize X 36 = X36 at *
    obtain rfl := hv0
    obtain rfl := hv1
    obtain rfl := hv2
    obtain rfl := hv3
    obtain rfl := hv4
    obtain rfl := hv5
    obtain rfl := hv6
    obtain rfl := hv7
    obtain rfl := hv8
    obtain rfl := hv9
    obtain rfl := hv10
    have RC := η (J6 RB10.out hb); clear hb
    have FT_11 := η (FT.out.below RC.out ν)
    have FQ_11 := η (FQ.out.below RC.out ν)
    have FX_11 := η (FX.out.below RC.out ν)
    have FI_11 := η (FI.out.below RC.out ν)
    have FP_11 := η (FP.out.below RC.out ν)
    have HB11 := η (HB1.out.trans (RC.out.mono HB1.out.size))
    clear HB1 FT FQ FX FI FP RB10
    have q1 := FI_11.out.cell 1 (v := .int .u64 (msk (deR d (lR v Q F G x y) k))) rfl; have z1 := FI_11.out.free 1
    gi_wp2_with fail
    have HI9 := η (show Bx (w11.setCell ⟨w2.heap.size, 1, none⟩ (.int .u64 (msk (deR d (lR v Q F G x y) k || lR v Q F G x y k)))) w2.heap.size #[.int .u64 (msk (alR d (lR v Q F G x y) k)), .int .u64 (msk (deR d (lR v Q F G x y) k || lR v Q F G x y k))] 154 from FI_11.out.set 1 _)
    have HP9 := η (show Bx (w11.setCell ⟨w2.heap.size, 1, none⟩ (.int .u64 (msk (deR d (lR v Q F G x y) k || lR v Q F G x y k)))) w.heap.size #[.int .i64 x, .int .i64 y] 23 from FP_11.out.other _ HNE.out)
    have HB9 := η (show Below w.heap.size w (w11.setCell ⟨w2.heap.size, 1, none⟩ (.int .u64 (msk (deR d (lR v Q F G x y) k || lR v Q F G x y k)))) from J9 HIB.out HB11.out)
    have HA := η (show alR d (lR v Q F G x y) (k + 1) = alR d (lR v Q F G x y) k from by unfold alR; rw [anyB, HD.out]; simp)
    have HE := η (show deR d (lR v Q F G x y) (k + 1) = (deR d (lR v Q F G x y) k || lR v Q F G x y k) from by unfold deR; rw [anyB, HD.out]; simp)
    go_wp2_with fail
    go_roundw
    case rel => exact ⟨k + 1, hlt, by go_num, by rw [HA.out, HE.out]; exact HI9.out, HP9.out, HB9.out⟩
    case measure => exact hms.out
  ·obtain rfl : k = n := by omega
   have q0 := HI.out.cell 0 (v := .int .u64 (msk (alR d (lR v Q F G x y) k))) rfl
   have q1 := HI.out.cell 1 (v := .int .u64 (msk (deR d (lR v Q F G x y) k))) rfl
   have hand := ZgJ (alR d (lR v Q F G x y) k) (deR d (lR v Q F G x y) k)
   go_wp2_with fail
   go_ret
   exact ⟨rfl, HB.out⟩
def b2i (b : Bool) : Int := if b then 1 else 0
theorem ZiO (b : Bool) : bits .and .u64 (msk b) 1 = b2i b := by cases b <;> rfl
theorem Zi4 (b : Bool) (w : World) :
  Calls Tryz.prog 119 #[.int .u64 (msk b)] w fun e w' => e = .returned (.int .u64 (b2i b)) ∧ w = w' := by
 have hb := ZiO b
 go_enter Tryz.func119, Tryz.ntmps119
 go_wp2_with fail
 go_ret
 exact ⟨rfl, rfl⟩
set_option maxRecDepth 100000 in
theorem ZbI (op : Int) (ho : op = 1 ∨ op = 2) (A : Option Addr) (c : Nat) (f g : Nat → Int) (Q : Option Addr) (qc : Nat) (w : World) (hp : Pts w A (op + 2).toNat c f g) :
  Calls Tryz.prog 85 #[.agg #[.int .i64 op, .int .i64 0, .slice none 0 0, .int .i64 0, .slice none 0 0, .slice A (op + 2).toNat c, .slice Q 0 qc]] w fun e w' => (∃ v, e = .returned (.tuple #[v, .int .i64 0])) ∧ Below w.heap.size w w' := by
 rcases ho with rfl | rfl
 ·have HP := η (show Pts w A 3 c f g from hp); clear hp
  rw [show ((1 : Int) + 2).toNat = 3 from rfl]
  go_enter Tryz.func85, Tryz.ntmps85
  go_wp2_with fail
  have HX := η (Bx.new w #[.int .i64 1, .int .i64 0, .slice none 0 0, .int .i64 0, .slice none 0 0, .slice A 3 c, .slice Q 0 qc] 99)
  have HP1 := η (HP.out.alloc (.cells #[.int .i64 1, .int .i64 0, .slice none 0 0, .int .i64 0, .slice none 0 0, .slice A 3 c, .slice Q 0 qc] 99))
  have HB1 := η (show Below w.heap.size w (w.alloc (.cells #[.int .i64 1, .int .i64 0, .slice none 0 0, .int .i64 0, .slice none 0 0, .slice A 3 c, .slice Q 0 qc] 99)) from J8 J0)
  generalize w.alloc (.cells #[.int .i64 1, .int .i64 0, .slice none 0 0, .int .i64 0, .slice none 0 0, .slice A 3 c, .slice Q 0 qc] 99) = w1 at *
  clear HP
  have c0 := HX.out.cell 0 (v := .int .i64 1) rfl
  have c1 := HX.out.cell 1 (v := .int .i64 0) rfl
  have c2 := HX.out.cell 2 (v := .slice none 0 0) rfl
  have c3 := HX.out.cell 3 (v := .int .i64 0) rfl
  go_wp2_with fail
  clear c0 c1 c2 c3
  refine (Jw 1 (by decide) _).mono ?_
  rintro e w2 ⟨⟨v, rfl, ho2⟩, B⟩
  obtain ⟨A', c', rfl⟩ := ho2.slice
  rw [show [(1 : Int)].length = 1 from rfl] at ho2
  rw [show [(1 : Int)].length = 1 from rfl]
  have HX2 := η (HX.out.below B ν); have HB12 := η B; have HO2 := η ho2; clear B ho2
  have c0 := HX2.out.cell 0 (v := .int .i64 1) rfl
  have c1 := HX2.out.cell 1 (v := .int .i64 0) rfl
  have c2 := HX2.out.cell 2 (v := .slice none 0 0) rfl
  have c3 := HX2.out.cell 3 (v := .int .i64 0) rfl
  go_wp2_with fail
  clear c0 c1 c2 c3
  refine (Za9 1 (by decide) _).mono ?_
  rintro e w3 ⟨rfl, B⟩
  have HX3 := η (HX2.out.below B ν); have HB13 := η (HB12.out.trans (B.mono HB12.out.size)); have HO3 := η (HO2.out.below B ν); clear B HX2 HB12 HO2
  rw [show (1 : Int) + 2 = 3 from rfl]
  have hcp := HP1.out.cap; have hmx := HP1.out.max
  unfold maxLen at hmx
  have c0 := HX3.out.cell 0 (v := .int .i64 1) rfl
  have c1 := HX3.out.cell 1 (v := .int .i64 0) rfl
  have c2 := HX3.out.cell 2 (v := .slice none 0 0) rfl
  have c3 := HX3.out.cell 3 (v := .int .i64 0) rfl
  have c4 := HX3.out.cell 4 (v := .slice none 0 0) rfl
  have c5 := HX3.out.cell 5 (v := .slice A 3 c) rfl
  have c6 := HX3.out.cell 6 (v := .slice Q 0 qc) rfl
  go_wp2_with fail
  refine wp_loop_rounds 1 ?_
  rw [rounds_succ]
  have d4 := (HX3.out.alloc (.cells #[.slice A' 1 c'] 142)).cell 4 (v := .slice none 0 0) rfl
  go_wp2_with fail
  clear d4
  have HW4 := η (show Wr (w3.alloc (.cells #[.slice A' 1 c'] 142)) w1.heap.size w3.heap.size [1] from ⟨HB13.out.size, .slice A' 1 c', Bx.new _ _ _, HO3.out.alloc _⟩)
  have HB14 := η (HB13.out.alloc HB13.out.size (.cells #[.slice A' 1 c'] 142))
  have HX4 := η (HX3.out.alloc (.cells #[.slice A' 1 c'] 142))
  have HNE := η (show some w.heap.size ≠ some w3.heap.size from by have := HX3.out.lt; simp; omega)
  generalize hz : w3.heap.size = bw at *
  have HZ := η hz; clear hz
  generalize w3.alloc (.cells #[.slice A' 1 c'] 142) = w4 at *
  clear HX3 HB13 HO3 c0 c1 c2 c3 c4 c5 c6
  refine wp_loop_rounds 1 ?_
  rw [rounds_succ]
  have c5 := HX4.out.cell 5 (v := .slice A 3 c) rfl
  go_wp2_with fail
  clear c5
  refine (ZbO w1 w1.heap.size bw A 3 c f g (by decide) [1] (by decide) _ HB14.out.size ν HP1.out HB14.out HW4.out).mono ?_
  rintro e w5 ⟨rfl, h5, g5⟩
  have HW5 := η h5; have HX5 := η (g5.keep _ _ _ (by decide) HNE.out HX4.out); have HB15 := η (HB14.out.trans g5.below); clear h5 g5 HW4 HX4 HB14
  have c6 := HX5.out.cell 6 (v := .slice Q 0 qc) rfl
  go_wp2_with fail
  refine (Ze3 Q qc _ _).mono ?_
  rintro e w6 ⟨rfl, rfl⟩
  obtain ⟨-, v5, hbw, hov⟩ := HW5.out
  have cw := hbw.cell 0 (v := v5) rfl
  clear hbw hov
  go_wp2_with fail
  go_ret2
  exact ⟨⟨_, rfl⟩, HB1.out.trans (HB15.out.mono HB1.out.size)⟩
 ·have HP := η (show Pts w A 4 c f g from hp); clear hp
  rw [show ((2 : Int) + 2).toNat = 4 from rfl]
  go_enter Tryz.func85, Tryz.ntmps85
  go_wp2_with fail
  have HX := η (Bx.new w #[.int .i64 2, .int .i64 0, .slice none 0 0, .int .i64 0, .slice none 0 0, .slice A 4 c, .slice Q 0 qc] 99)
  have HP1 := η (HP.out.alloc (.cells #[.int .i64 2, .int .i64 0, .slice none 0 0, .int .i64 0, .slice none 0 0, .slice A 4 c, .slice Q 0 qc] 99))
  have HB1 := η (show Below w.heap.size w (w.alloc (.cells #[.int .i64 2, .int .i64 0, .slice none 0 0, .int .i64 0, .slice none 0 0, .slice A 4 c, .slice Q 0 qc] 99)) from J8 J0)
  generalize w.alloc (.cells #[.int .i64 2, .int .i64 0, .slice none 0 0, .int .i64 0, .slice none 0 0, .slice A 4 c, .slice Q 0 qc] 99) = w1 at *
  clear HP
  have c0 := HX.out.cell 0 (v := .int .i64 2) rfl
  have c1 := HX.out.cell 1 (v := .int .i64 0) rfl
  have c2 := HX.out.cell 2 (v := .slice none 0 0) rfl
  have c3 := HX.out.cell 3 (v := .int .i64 0) rfl
  go_wp2_with fail
  clear c0 c1 c2 c3
  refine (Jw 2 (by decide) _).mono ?_
  rintro e w2 ⟨⟨v, rfl, ho2⟩, B⟩
  obtain ⟨A', c', rfl⟩ := ho2.slice
  rw [show [(2 : Int)].length = 1 from rfl] at ho2
  rw [show [(2 : Int)].length = 1 from rfl]
  have HX2 := η (HX.out.below B ν); have HB12 := η B; have HO2 := η ho2; clear B ho2
  have c0 := HX2.out.cell 0 (v := .int .i64 2) rfl
  have c1 := HX2.out.cell 1 (v := .int .i64 0) rfl
  have c2 := HX2.out.cell 2 (v := .slice none 0 0) rfl
  have c3 := HX2.out.cell 3 (v := .int .i64 0) rfl
  go_wp2_with fail
  clear c0 c1 c2 c3
  refine (Za9 2 (by decide) _).mono ?_
  rintro e w3 ⟨rfl, B⟩
  have HX3 := η (HX2.out.below B ν); have HB13 := η (HB12.out.trans (B.mono HB12.out.size)); have HO3 := η (HO2.out.below B ν); clear B HX2 HB12 HO2
  rw [show (2 : Int) + 2 = 4 from rfl]
  have hcp := HP1.out.cap; have hmx := HP1.out.max
  unfold maxLen at hmx
  have c0 := HX3.out.cell 0 (v := .int .i64 2) rfl
  have c1 := HX3.out.cell 1 (v := .int .i64 0) rfl
  have c2 := HX3.out.cell 2 (v := .slice none 0 0) rfl
  have c3 := HX3.out.cell 3 (v := .int .i64 0) rfl
  have c4 := HX3.out.cell 4 (v := .slice none 0 0) rfl
  have c5 := HX3.out.cell 5 (v := .slice A 4 c) rfl
  have c6 := HX3.out.cell 6 (v := .slice Q 0 qc) rfl
  go_wp2_with fail
  refine wp_loop_rounds 1 ?_
  rw [rounds_succ]
  have d4 := (HX3.out.alloc (.cells #[.slice A' 1 c'] 142)).cell 4 (v := .slice none 0 0) rfl
  go_wp2_with fail
  clear d4
  have HW4 := η (show Wr (w3.alloc (.cells #[.slice A' 1 c'] 142)) w1.heap.size w3.heap.size [2] from ⟨HB13.out.size, .slice A' 1 c', Bx.new _ _ _, HO3.out.alloc _⟩)
  have HB14 := η (HB13.out.alloc HB13.out.size (.cells #[.slice A' 1 c'] 142))
  have HX4 := η (HX3.out.alloc (.cells #[.slice A' 1 c'] 142))
  have HNE := η (show some w.heap.size ≠ some w3.heap.size from by have := HX3.out.lt; simp; omega)
  generalize hz : w3.heap.size = bw at *
  have HZ := η hz; clear hz
  generalize w3.alloc (.cells #[.slice A' 1 c'] 142) = w4 at *
  clear HX3 HB13 HO3 c0 c1 c2 c3 c4 c5 c6
  refine wp_loop_rounds 1 ?_
  rw [rounds_succ]
  have c5 := HX4.out.cell 5 (v := .slice A 4 c) rfl
  go_wp2_with fail
  clear c5
  refine (ZbO w1 w1.heap.size bw A 4 c f g (by decide) [2] (by decide) _ HB14.out.size ν HP1.out HB14.out HW4.out).mono ?_
  rintro e w5 ⟨rfl, h5, g5⟩
  have HW5 := η h5; have HX5 := η (g5.keep _ _ _ (by decide) HNE.out HX4.out); have HB15 := η (HB14.out.trans g5.below); clear h5 g5 HW4 HX4 HB14
  have c6 := HX5.out.cell 6 (v := .slice Q 0 qc) rfl
  go_wp2_with fail
  refine (Ze3 Q qc _ _).mono ?_
  rintro e w6 ⟨rfl, rfl⟩
  obtain ⟨-, v5, hbw, hov⟩ := HW5.out
  have cw := hbw.cell 0 (v := v5) rfl
  clear hbw hov
  go_wp2_with fail
  go_ret2
  exact ⟨⟨_, rfl⟩, HB1.out.trans (HB15.out.mono HB1.out.size)⟩
theorem Zi5 {α : Type _} (a : Array α) (x y : α) : (a.push x).setIfInBounds a.size y = a.push y := by
 apply Array.ext
 ·simp
 ·intro i h1 h2
  simp only [Array.size_push] at h2
  rw [Array.getElem_setIfInBounds (by simpa using h2)]
  by_cases h : a.size = i
  ·subst h; simp
  ·rw [if_neg h, Array.getElem_push_lt (by omega), Array.getElem_push_lt (by omega)]
theorem Zgb (k : Int) : MapKept.IsKey (.int .i64) (.int .i64 k) := by simp [MapKept.IsKey]
theorem Zaf {P : Program} {t kt et : TypeId} (ht : P.underlying t = some (.map kt et)) (hk : P.underlying kt = some (.int .i64)) (w : World) (es : Array MapEntry) (clock : Nat) (k : Int) (v : Value)
  (hf : Instr.findNow (.int .i64) (.int .i64 k) es.toList 0 = some none) :
  (Instr.mapUpdate t (.map (some w.heap.size)) (.int .i64 k) v).run P (w.alloc (.map es clock)) = .ok () (w.alloc (.map (es.push { key := .int .i64 k, val := v, born := clock }) (clock + 1))) := by
 have hb : (w.alloc (.map es clock)).heap[w.heap.size]? = some (.map es clock) := heap_alloc_new w _
 simp [Instr.mapUpdate, run_underlying ht, MapKept.run_getObj_map hb, MapKept.run_checkKey hk (Zgb k) false 9999, MapKept.run_findKey hk hf, MapKept.run_setObj_map _ hb, Result.andThen]
 unfold World.alloc
 simp [Zi5]
theorem Zeu {P : Program} {t kt et : TypeId} (ht : P.underlying t = some (.map kt et)) (hk : P.underlying kt = some (.int .i64)) (w : World) (m : Nat) (es : Array MapEntry) (clock : Nat) (k : Int) (v : Value) (i : Nat)
  (hb : w.heap[m]? = some (.map es clock)) (hf : Instr.findNow (.int .i64) (.int .i64 k) es.toList 0 = some (some (i, v))) :
  (Instr.lookup t (.map (some m)) (.int .i64 k) true).run P w = .ok (.tuple #[v, .bool true]) w := by
 simp [Instr.lookup, run_underlying ht, MapKept.run_getObj_map hb, MapKept.run_checkKey hk (Zgb k) _ 9999, MapKept.run_findKey hk hf, Result.andThen]
def opE : Array MapEntry := #[⟨.int .i64 1, .agg #[.func (.func 142) #[] #[]], 0⟩, ⟨.int .i64 2, .agg #[.func (.func 143) #[] #[]], 1⟩, ⟨.int .i64 3, .agg #[.func (.func 145) #[] #[]], 2⟩, ⟨.int .i64 4, .agg #[.func (.func 147) #[] #[]], 3⟩]
def OpsM (w : World) (m : Nat) : Prop := w.heap[m]? = some (.map opE 4)
theorem Stay.ops (m : Nat) : Stay (fun w => OpsM w m) :=
 ⟨fun w w' b h => (b.block m (Array.getElem?_eq_some_iff.1 h).1).trans h, fun w B cs ty _ _ hb k v h => by
  refine (heap_setCell_other w ⟨B, k, none⟩ m v (fun e => ?_)).trans h
  obtain rfl : m = B := e
  have := (show w.heap[m]? = _ from hb).symm.trans h
  simp at this⟩
set_option maxRecDepth 100000 in
theorem ZcC (w : World) :
  Calls Tryz.prog 122 #[] w fun e w' => e = .returned (.map (some w.heap.size)) ∧ OpsM w' w.heap.size ∧ Below w.heap.size w w' := by
 have hmm := @run_makeMap Tryz.prog
 have h1 := Zaf (P := Tryz.prog) Tryz.underlying182 Tryz.underlying3 w #[] 0 1 (.agg #[.func (.func 142) #[] #[]]) rfl
 have h2 := Zaf (P := Tryz.prog) Tryz.underlying182 Tryz.underlying3 w #[⟨.int .i64 1, .agg #[.func (.func 142) #[] #[]], 0⟩] 1 2 (.agg #[.func (.func 143) #[] #[]]) rfl
 have h3 := Zaf (P := Tryz.prog) Tryz.underlying182 Tryz.underlying3 w #[⟨.int .i64 1, .agg #[.func (.func 142) #[] #[]], 0⟩, ⟨.int .i64 2, .agg #[.func (.func 143) #[] #[]], 1⟩] 2 3 (.agg #[.func (.func 145) #[] #[]]) rfl
 have h4 := Zaf (P := Tryz.prog) Tryz.underlying182 Tryz.underlying3 w #[⟨.int .i64 1, .agg #[.func (.func 142) #[] #[]], 0⟩, ⟨.int .i64 2, .agg #[.func (.func 143) #[] #[]], 1⟩, ⟨.int .i64 3, .agg #[.func (.func 145) #[] #[]], 2⟩] 3 4 (.agg #[.func (.func 147) #[] #[]]) rfl
 simp only [List.push_toArray, List.nil_append, List.cons_append] at h1 h2 h3 h4
 go_enter Tryz.func122, Tryz.ntmps122
 go_wp2_with fail
 go_ret
 exact ⟨rfl, heap_alloc_new _ _, J8 J0⟩
theorem Pts.k {w : World} {B n c : Nat} {f g : Nat → Int} (h : Pts w (Option.some ⟨B, 0, none⟩) n c f g) {i : Nat} (hi : i < n) : w.cell? ⟨B, i * 2, none⟩ = Option.some (.int .i64 (f i)) ∧ w.cell? ⟨B, i * 2 + 1, none⟩ = Option.some (.int .i64 (g i)) := by
 obtain ⟨b, off, e, _, hc⟩ := h.at_ (by omega)
 cases e
 have := hc i hi
 rwa [Nat.zero_add] at this
theorem Pts.x0 {w : World} {B n c : Nat} {f g : Nat → Int} (h : Pts w (Option.some ⟨B, 0, none⟩) n c f g) (hi : 0 < n) : w.cell? ⟨B, 0, none⟩ = Option.some (.int .i64 (f 0)) := (h.k hi).1
theorem Pts.y0 {w : World} {B n c : Nat} {f g : Nat → Int} (h : Pts w (Option.some ⟨B, 0, none⟩) n c f g) (hi : 0 < n) : w.cell? ⟨B, 1, none⟩ = Option.some (.int .i64 (g 0)) := (h.k hi).2
theorem Pts.x1 {w : World} {B n c : Nat} {f g : Nat → Int} (h : Pts w (Option.some ⟨B, 0, none⟩) n c f g) (hi : 1 < n) : w.cell? ⟨B, 2, none⟩ = Option.some (.int .i64 (f 1)) := (h.k hi).1
theorem Pts.y1 {w : World} {B n c : Nat} {f g : Nat → Int} (h : Pts w (Option.some ⟨B, 0, none⟩) n c f g) (hi : 1 < n) : w.cell? ⟨B, 3, none⟩ = Option.some (.int .i64 (g 1)) := (h.k hi).2
theorem Pts.x2 {w : World} {B n c : Nat} {f g : Nat → Int} (h : Pts w (Option.some ⟨B, 0, none⟩) n c f g) (hi : 2 < n) : w.cell? ⟨B, 4, none⟩ = Option.some (.int .i64 (f 2)) := (h.k hi).1
theorem Pts.y2 {w : World} {B n c : Nat} {f g : Nat → Int} (h : Pts w (Option.some ⟨B, 0, none⟩) n c f g) (hi : 2 < n) : w.cell? ⟨B, 5, none⟩ = Option.some (.int .i64 (g 2)) := (h.k hi).2
theorem Pts.x3 {w : World} {B n c : Nat} {f g : Nat → Int} (h : Pts w (Option.some ⟨B, 0, none⟩) n c f g) (hi : 3 < n) : w.cell? ⟨B, 6, none⟩ = Option.some (.int .i64 (f 3)) := (h.k hi).1
theorem Pts.y3 {w : World} {B n c : Nat} {f g : Nat → Int} (h : Pts w (Option.some ⟨B, 0, none⟩) n c f g) (hi : 3 < n) : w.cell? ⟨B, 7, none⟩ = Option.some (.int .i64 (g 3)) := (h.k hi).2
set_option maxRecDepth 100000 in
theorem ZgK (op v p : Int) (RA GA Q : Option Addr) (rn rc gn gc qn qc pb c : Nat) (f g : Nat → Int) (w : World) (hT : TabM w) (hp : Pts w (some ⟨pb, 0, none⟩) 3 c f g) :
  Calls Tryz.prog 142 #[.pointer none, .agg #[.int .i64 op, .int .i64 v, .slice RA rn rc, .int .i64 p, .slice GA gn gc, .slice (some ⟨pb, 0, none⟩) 3 c, .slice Q qn qc]] w fun e w' => e = .returned (.int .i64 (sg (det (f 0) (g 0) (f 1) (g 1) (f 2) (g 2)) + 1)) ∧ Below w.heap.size w w' := by
 have HB0 := η (Below.refl w.heap.size w); have FT := η hT; have FP := η hp
 have HP3 := η (show P3 (f 0) (g 0) (f 1) (g 1) (f 2) (g 2) from ⟨(hp.isi 0 (by decide)).1, (hp.isi 0 (by decide)).2, (hp.isi 1 (by decide)).1, (hp.isi 1 (by decide)).2, (hp.isi 2 (by decide)).1, (hp.isi 2 (by decide)).2⟩)
 have hr := Zbd (det (f 0) (g 0) (f 1) (g 1) (f 2) (g 2))
 have e1 : IntKind.i64.wrap (sg (det (f 0) (g 0) (f 1) (g 1) (f 2) (g 2)) + 1) = sg (det (f 0) (g 0) (f 1) (g 1) (f 2) (g 2)) + 1 := by rw [IntKind.wrap_i64]; omega
 have hcp := hp.cap; have hmx := hp.max; unfold maxLen at hmx
 have hci : (3 : Int) ≤ (c : Int) := by omega
 clear hT hp hr
 go_enter Tryz.func142, Tryz.ntmps142
 go_wp2_with fail
 have B : Below w.heap.size w (w.alloc (.cells #[.int .i64 op, .int .i64 v, .slice RA rn rc, .int .i64 p, .slice GA gn gc, .slice (some ⟨pb, 0, none⟩) 3 c, .slice Q qn qc] 99)) := (HB0.out.alloc HB0.out.size _)
 have C : Below w.heap.size w (w.alloc (.cells #[.int .i64 op, .int .i64 v, .slice RA rn rc, .int .i64 p, .slice GA gn gc, .slice (some ⟨pb, 0, none⟩) 3 c, .slice Q qn qc] 99)) := ((Below.refl w.heap.size w).alloc ν _)
 have X0 : Bx (w.alloc (.cells #[.int .i64 op, .int .i64 v, .slice RA rn rc, .int .i64 p, .slice GA gn gc, .slice (some ⟨pb, 0, none⟩) 3 c, .slice Q qn qc] 99)) (w.heap.size) #[.int .i64 op, .int .i64 v, .slice RA rn rc, .int .i64 p, .slice GA gn gc, .slice (some ⟨pb, 0, none⟩) 3 c, .slice Q qn qc] 99 := by simpa using (Bx.new w #[.int .i64 op, .int .i64 v, .slice RA rn rc, .int .i64 p, .slice GA gn gc, .slice (some ⟨pb, 0, none⟩) 3 c, .slice Q qn qc] 99)
 have FT_1 := η (FT.out.below C ν)
 have FP_1 := η (FP.out.below C ν)
 have HB1 := η B
 have FR_1 := η X0
 clear B C X0 HB0 FT FP
 generalize (w.alloc (.cells #[.int .i64 op, .int .i64 v, .slice RA rn rc, .int .i64 p, .slice GA gn gc, .slice (some ⟨pb, 0, none⟩) 3 c, .slice Q qn qc] 99)) = w1 at *
 have RB1 := η (Je w1)
 have QF1 := η (show ∀ w', Below w1.heap.size w1 w' → w'.cell? ⟨w.heap.size, 5, none⟩ = some (.slice (some ⟨pb, 0, none⟩) 3 c) ∧ w'.cell? ⟨pb, 0, none⟩ = some (.int .i64 (f 0)) ∧ w'.cell? ⟨pb, 1, none⟩ = some (.int .i64 (g 0)) ∧ w'.cell? ⟨pb, 2, none⟩ = some (.int .i64 (f 1)) ∧ w'.cell? ⟨pb, 3, none⟩ = some (.int .i64 (g 1)) ∧ w'.cell? ⟨pb, 4, none⟩ = some (.int .i64 (f 2)) ∧ w'.cell? ⟨pb, 5, none⟩ = some (.int .i64 (g 2)) from fun w' hb => ⟨(FR_1.out.below hb ν).cell 5 (v := .slice (some ⟨pb, 0, none⟩) 3 c) rfl, (FP_1.out.below hb ν).x0 (by decide), (FP_1.out.below hb ν).y0 (by decide), (FP_1.out.below hb ν).x1 (by decide), (FP_1.out.below hb ν).y1 (by decide), (FP_1.out.below hb ν).x2 (by decide), (FP_1.out.below hb ν).y2 (by decide)⟩)
 refine wp_region_held_drew (S := fun w' => w'.cell? ⟨w.heap.size, 5, none⟩ = some (.slice (some ⟨pb, 0, none⟩) 3 c) ∧ w'.cell? ⟨pb, 0, none⟩ = some (.int .i64 (f 0)) ∧ w'.cell? ⟨pb, 1, none⟩ = some (.int .i64 (g 0)) ∧ w'.cell? ⟨pb, 2, none⟩ = some (.int .i64 (f 1)) ∧ w'.cell? ⟨pb, 3, none⟩ = some (.int .i64 (g 1)) ∧ w'.cell? ⟨pb, 4, none⟩ = some (.int .i64 (f 2)) ∧ w'.cell? ⟨pb, 5, none⟩ = some (.int .i64 (g 2))) (by kernel_rfl) (QF1.out _ RB1.out) (fun hHeld => ?_)
 refine tk 0 hHeld ?_
 refine tk 1 hHeld ?_
 refine tk 2 hHeld ?_
 refine tk 3 hHeld ?_
 refine tk 4 hHeld ?_
 refine tk 5 hHeld ?_
 refine tk 6 hHeld ?_
 refine tk 7 hHeld ?_
 refine tk 8 hHeld ?_
 refine tk 9 hHeld ?_
 refine tk 10 hHeld ?_
 refine tk 11 hHeld ?_
 refine cl 12 (fun K hK => ?_)
 go_simp
 refine (JQ _ _ _ _ _ _ HP3.out _ (FT_1.out.below RB1.out ν)).mono ?_
 rintro e w2 ⟨rfl, B⟩
 have RB2 := η (RB1.out.trans (B.mono RB1.out.size))
 clear B
 go_wp2_with fail
 refine hK.out _ _ (QF1.out _ RB2.out) (fun hHeld2 => ?_)
 clear hK K hHeld; have hHeld := hHeld2; clear hHeld2
 try simp only [Act.put, List.setIfInBounds_toArray, List.set_cons_zero, List.set_cons_succ]
 refine tk 13 hHeld ?_
 refine tk 14 hHeld ?_
 refine wpAnyH_done (by kernel_rfl) ?_ _
 have FT_2 := η (FT_1.out.below RB2.out ν)
 have FP_2 := η (FP_1.out.below RB2.out ν)
 have FR_2 := η (FR_1.out.below RB2.out ν)
 have HB2 := η (HB1.out.trans (RB2.out.mono HB1.out.size))
 clear hHeld HB1 FT_1 FP_1 FR_1
 go_wp2_with fail
 go_ret
 exact ⟨rfl, HB2.out⟩

set_option maxRecDepth 100000 in
theorem ZdL (Q : Option Addr) (qc pb c : Nat) (f g : Nat → Int) (w : World) (hT : TabM w) (hp : Pts w (some ⟨pb, 0, none⟩) 3 c f g) :
  Calls Tryz.prog 87 #[.pointer none, .agg #[.int .i64 1, .int .i64 0, .slice none 0 0, .int .i64 0, .slice none 0 0, .slice (some ⟨pb, 0, none⟩) 3 c, .slice Q 0 qc]] w fun e w' => e = .returned (.tuple #[.agg #[.int .i64 (sg (det (f 0) (g 0) (f 1) (g 1) (f 2) (g 2)) + 1), .int .i64 0, .slice none 0 0], .int .i64 0]) ∧ Below w.heap.size w w' := by
 have HB0 := η (Below.refl w.heap.size w); have FT := η hT; have FP := η hp; clear hT hp
 go_enter Tryz.func87, Tryz.ntmps87
 go_wp2_with fail
 have B : Below w.heap.size w ((w.alloc (.cells #[.int .i64 1, .int .i64 0, .slice none 0 0, .int .i64 0, .slice none 0 0, .slice (some ⟨pb, 0, none⟩) 3 c, .slice Q 0 qc] 99)).alloc (.cells #[.int .i64 0, .int .i64 0, .slice none 0 0] 102)) := ((HB0.out.alloc HB0.out.size _).alloc (HB0.out.alloc HB0.out.size _).size _)
 have C : Below w.heap.size w ((w.alloc (.cells #[.int .i64 1, .int .i64 0, .slice none 0 0, .int .i64 0, .slice none 0 0, .slice (some ⟨pb, 0, none⟩) 3 c, .slice Q 0 qc] 99)).alloc (.cells #[.int .i64 0, .int .i64 0, .slice none 0 0] 102)) := (((Below.refl w.heap.size w).alloc ν _).alloc (by simp; try omega) _)
 have X0 : Bx ((w.alloc (.cells #[.int .i64 1, .int .i64 0, .slice none 0 0, .int .i64 0, .slice none 0 0, .slice (some ⟨pb, 0, none⟩) 3 c, .slice Q 0 qc] 99)).alloc (.cells #[.int .i64 0, .int .i64 0, .slice none 0 0] 102)) (w.heap.size) #[.int .i64 1, .int .i64 0, .slice none 0 0, .int .i64 0, .slice none 0 0, .slice (some ⟨pb, 0, none⟩) 3 c, .slice Q 0 qc] 99 := by simpa using ((Bx.new w #[.int .i64 1, .int .i64 0, .slice none 0 0, .int .i64 0, .slice none 0 0, .slice (some ⟨pb, 0, none⟩) 3 c, .slice Q 0 qc] 99).alloc _)
 have X1 : Bx ((w.alloc (.cells #[.int .i64 1, .int .i64 0, .slice none 0 0, .int .i64 0, .slice none 0 0, .slice (some ⟨pb, 0, none⟩) 3 c, .slice Q 0 qc] 99)).alloc (.cells #[.int .i64 0, .int .i64 0, .slice none 0 0] 102)) (w.heap.size + 1) #[.int .i64 0, .int .i64 0, .slice none 0 0] 102 := by simpa using (Bx.new (w.alloc (.cells #[.int .i64 1, .int .i64 0, .slice none 0 0, .int .i64 0, .slice none 0 0, .slice (some ⟨pb, 0, none⟩) 3 c, .slice Q 0 qc] 99)) #[.int .i64 0, .int .i64 0, .slice none 0 0] 102)
 have FT_1 := η (FT.out.below C ν)
 have FP_1 := η (FP.out.below C ν)
 have HB1 := η B
 have FR_1 := η X0
 have FZ_1 := η X1
 clear B C X0 X1 HB0 FT FP
 generalize ((w.alloc (.cells #[.int .i64 1, .int .i64 0, .slice none 0 0, .int .i64 0, .slice none 0 0, .slice (some ⟨pb, 0, none⟩) 3 c, .slice Q 0 qc] 99)).alloc (.cells #[.int .i64 0, .int .i64 0, .slice none 0 0] 102)) = w1 at *
 have vR0 := FR_1.out.cell 0 (v := .int .i64 1) rfl
 have vR1 := FR_1.out.cell 1 (v := .int .i64 0) rfl
 have vR2 := FR_1.out.cell 2 (v := .slice none 0 0) rfl
 have vR3 := FR_1.out.cell 3 (v := .int .i64 0) rfl
 have vR4 := FR_1.out.cell 4 (v := .slice none 0 0) rfl
 have vR5 := FR_1.out.cell 5 (v := .slice (some ⟨pb, 0, none⟩) 3 c) rfl
 have vR6 := FR_1.out.cell 6 (v := .slice Q 0 qc) rfl
 go_wp2_with fail
 refine (ZbI 1 (by decide) (some ⟨pb, 0, none⟩) c f g Q qc _ FP_1.out).mono ?_
 rintro e w2 ⟨⟨v, rfl⟩, B⟩
 clear vR0 vR1 vR2 vR3 vR4 vR5 vR6
 have HB2 := η (HB1.out.trans (B.mono HB1.out.size))
 have FT_2 := η (FT_1.out.below B ν)
 have FP_2 := η (FP_1.out.below B ν)
 have FR_2 := η (FR_1.out.below B ν)
 have FZ_2 := η (FZ_1.out.below B ν)
 clear B  HB1 FT_1 FP_1 FR_1 FZ_1
 go_wp2_with fail
 have RB2 := η (Je w2)
 refine wp_region_held_drew (S := fun _ => True) (by kernel_rfl) trivial (fun _ => ?_)
 refine Zgv [(⟨8, 9, 8, 180, #[.nilFunc], []⟩, fun cs w => cs = #[.func (.func 142) #[] #[]])] [⟨0, 20, fun x w => ∃ m : Nat, x = .map (some m) ∧ OpsM w m⟩, ⟨1, 21, fun z_ _ => z_ = .pointer (some ⟨w.heap.size, 0, none⟩)⟩, ⟨2, 22, fun z_ _ => z_ = .pointer (some ⟨w.heap.size, 0, none⟩)⟩, ⟨3, 23, fun z_ _ => z_ = .int .i64 1⟩, ⟨4, 24, fun z_ _ => z_ = .tuple #[.agg #[.func (.func 142) #[] #[]], .bool true]⟩, ⟨5, 19, fun z_ _ => z_ = .tuple #[.agg #[.func (.func 142) #[] #[]], .bool true]⟩, ⟨6, 25, fun z_ _ => z_ = .agg #[.func (.func 142) #[] #[]]⟩, ⟨7, 26, fun z_ _ => z_ = .bool true⟩, ⟨10, 9, fun z_ _ => z_ = .bool true⟩] (by kernel_rfl) (by kernel_rfl) (fun _ => trivial) ?_ ?_ ?_ ?_ ?_ ?_
 ·refine ⟨?_, trivial⟩
  all_goals exact ⟨fun cs => by (dsimp only; repeat (first | exact Stay.const _ | exact Stay.sl _ _ _ _ | exact Stay.nm _ _ _ _ | exact Stay.bx _ _ _ _ | exact Stay.ops _ | refine Stay.ex fun _ => ?_ | refine Stay.and ?_ ?_)), by dsimp only; decide, by simp [NoU]⟩
 ·refine ⟨?_, ?_, ?_, ?_, ?_, ?_, ?_, ?_, ?_, trivial⟩
  all_goals (intro x; (dsimp only; repeat (first | exact Stay.const _ | exact Stay.sl _ _ _ _ | exact Stay.nm _ _ _ _ | exact Stay.bx _ _ _ _ | exact Stay.ops _ | refine Stay.ex fun _ => ?_ | refine Stay.and ?_ ?_)))
 ·refine ⟨?_, trivial⟩
  all_goals (intro a w K h; refine wpOp_step (by simp only [List.getElem?_toArray, List.getElem?_cons_succ, List.getElem?_cons_zero]; rfl) (fun K' hK => ?_); go_simp; exact hK _ _ h)
 ·refine ⟨?_, trivial⟩
  ·intro a w B K ht hd hs hb hK
   obtain ⟨x25, hx25, hp25⟩ := hd 6 _ rfl (by kernel_rfl)
   obtain rfl := hp25
   have es25 : a.tmps.getD 25 undef = _ := J7 hx25; clear hx25
   clear ht hd
   have zc0 := hb.cell 0 (v := .nilFunc) rfl; have zf0 := hb.free 0
   have HK := η (hK [.func (.func 142) #[] #[]] rfl (by simp [NoU]) rfl); clear hK hb
   simp only [JI] at hs
   have esB : a.tmps.getD 8 undef = _ := J7 hs; clear hs
   refine wpOp_step (by simp only [List.getElem?_toArray, List.getElem?_cons_succ, List.getElem?_cons_zero]; rfl) (fun K' hK' => ?_)
   go_simp
   exact hK' _ _ HK.out
 ·refine ⟨?_, ?_, ?_, ?_, ?_, ?_, ?_, ?_, ?_, trivial⟩
  ·intro a w K hb ht hd hK
   have hbw := η (J6 RB2.out hb); clear hb
   clear ht hd
   have HK := η hK; clear hK
   refine oQ (fun K' HK' => ?_)
   go_simp
   refine (ZcC _).mono ?_
   rintro e w1 ⟨rfl, hm, B⟩
   go_wp2_with fail
   exact HK'.out _ _ (HK.out _ _ B ⟨_, rfl, hm⟩)
  ·intro a w K hb ht hd hK
   have hbw := η (J6 RB2.out hb); clear hb
   have hx3 := (ht 3 rfl).trans rfl
   have es3 : a.tmps.getD 3 undef = _ := J7 hx3; clear hx3
   clear ht hd
   have HK := η hK; clear hK
   refine oQ (fun K' HK' => ?_)
   go_simp
   exact HK'.out _ _ (HK.out _ _ J0 rfl)
  ·intro a w K hb ht hd hK
   have hbw := η (J6 RB2.out hb); clear hb
   obtain ⟨x21, hx21, hp21⟩ := hd 1 _ rfl (by kernel_rfl)
   obtain rfl := hp21
   have es21 : a.tmps.getD 21 undef = _ := J7 hx21; clear hx21
   clear ht hd
   have HK := η hK; clear hK
   refine oQ (fun K' HK' => ?_)
   go_simp
   exact HK'.out _ _ (HK.out _ _ J0 rfl)
  ·intro a w K hb ht hd hK
   have hbw := η (J6 RB2.out hb); clear hb
   obtain ⟨x22, hx22, hp22⟩ := hd 2 _ rfl (by kernel_rfl)
   obtain rfl := hp22
   have es22 : a.tmps.getD 22 undef = _ := J7 hx22; clear hx22
   clear ht hd
   have zc0 := (FR_2.out.below hbw.out ν).cell 0 (v := .int .i64 1) rfl
   have HK := η hK; clear hK
   refine oQ (fun K' HK' => ?_)
   go_simp
   exact HK'.out _ _ (HK.out _ _ J0 rfl)
  ·intro a w K hb ht hd hK
   have hbw := η (J6 RB2.out hb); clear hb
   obtain ⟨x20, hx20, hp20⟩ := hd 0 _ rfl (by kernel_rfl)
   obtain ⟨mb20, rfl, S20⟩ := hp20
   have es20 : a.tmps.getD 20 undef = _ := J7 hx20; clear hx20
   obtain ⟨x23, hx23, hp23⟩ := hd 3 _ rfl (by kernel_rfl)
   obtain rfl := hp23
   have es23 : a.tmps.getD 23 undef = _ := J7 hx23; clear hx23
   clear ht hd
   have HK := η hK; clear hK
   have hlk := Zeu (P := Tryz.prog) Tryz.underlying182 Tryz.underlying3 w mb20 opE 4 1 (.agg #[.func (.func 142) #[] #[]]) 0 S20 rfl
   refine oQ (fun K' HK' => ?_)
   go_simp
   exact HK'.out _ _ (HK.out _ _ J0 rfl)
  ·intro a w K hb ht hd hK
   have hbw := η (J6 RB2.out hb); clear hb
   obtain ⟨x24, hx24, hp24⟩ := hd 4 _ rfl (by kernel_rfl)
   obtain rfl := hp24
   have es24 : a.tmps.getD 24 undef = _ := J7 hx24; clear hx24
   clear ht hd
   have HK := η hK; clear hK
   refine oQ (fun K' HK' => ?_)
   go_simp
   exact HK'.out _ _ (HK.out _ _ J0 rfl)
  ·intro a w K hb ht hd hK
   have hbw := η (J6 RB2.out hb); clear hb
   obtain ⟨x19, hx19, hp19⟩ := hd 5 _ rfl (by kernel_rfl)
   obtain rfl := hp19
   have es19 : a.tmps.getD 19 undef = _ := J7 hx19; clear hx19
   clear ht hd
   have HK := η hK; clear hK
   refine oQ (fun K' HK' => ?_)
   go_simp
   exact HK'.out _ _ (HK.out _ _ J0 rfl)
  ·intro a w K hb ht hd hK
   have hbw := η (J6 RB2.out hb); clear hb
   obtain ⟨x19, hx19, hp19⟩ := hd 5 _ rfl (by kernel_rfl)
   obtain rfl := hp19
   have es19 : a.tmps.getD 19 undef = _ := J7 hx19; clear hx19
   clear ht hd
   have HK := η hK; clear hK
   refine oQ (fun K' HK' => ?_)
   go_simp
   exact HK'.out _ _ (HK.out _ _ J0 rfl)
  ·intro a w K hb ht hd hK
   have hbw := η (J6 RB2.out hb); clear hb
   obtain ⟨x26, hx26, hp26⟩ := hd 7 _ rfl (by kernel_rfl)
   obtain rfl := hp26
   have es26 : a.tmps.getD 26 undef = _ := J7 hx26; clear hx26
   clear ht hd
   have HK := η hK; clear hK
   refine oQ (fun K' HK' => ?_)
   go_simp
   exact HK'.out _ _ (HK.out _ _ J0 rfl)
 ·intro w3 X B hb hv hx hd
  simp only [List.foldl_cons, List.foldl_nil, Act.put, List.setIfInBounds_toArray, List.set_cons_zero, List.set_cons_succ, JI]
  obtain ⟨hv0, hv1, hv2, hv3, hv4, hv5, hv6, hv7, hv10, -⟩ := hv
  obtain ⟨⟨hn8, cs8, hx8, hg8⟩, -⟩ := hx
  clear hd
  have hV0 : (fun x w => ∃ m : Nat, x = .map (some m) ∧ OpsM w m) (X 20) w3 := hv0; clear hv0; have hv0 := hV0; clear hV0; generalize X 20 = X20 at *
  have hV1 : (fun z_ _ => z_ = .pointer (some ⟨w.heap.size, 0, none⟩)) (X 21) w3 := hv1; clear hv1; have hv1 := hV1; clear hV1; generalize X 21 = X21 at *
  have hV2 : (fun z_ _ => z_ = .pointer (some ⟨w.heap.size, 0, none⟩)) (X 22) w3 := hv2; clear hv2; have hv2 := hV2; clear hV2; generalize X 22 = X22 at *
  have hV3 : (fun z_ _ => z_ = .int .i64 1) (X 23) w3 := hv3; clear hv3; have hv3 := hV3; clear hV3; generalize X 23 = X23 at *
  have hV4 : (fun z_ _ => z_ = .tuple #[.agg #[.func (.func 142) #[] #[]], .bool true]) (X 24) w3 := hv4; clear hv4; have hv4 := hV4; clear hV4; generalize X 24 = X24 at *
  have hV5 : (fun z_ _ => z_ = .tuple #[.agg #[.func (.func 142) #[] #[]], .bool true]) (X 19) w3 := hv5; clear hv5; have hv5 := hV5; clear hV5; generalize X 19 = X19 at *
  have hV6 : (fun z_ _ => z_ = .agg #[.func (.func 142) #[] #[]]) (X 25) w3 := hv6; clear hv6; have hv6 := hV6; clear hV6; generalize X 25 = X25 at *
  have hV7 : (fun z_ _ => z_ = .bool true) (X 26) w3 := hv7; clear hv7; have hv7 := hV7; clear hV7; generalize X 26 = X26 at *
  have hV10 : (fun z_ _ => z_ = .bool true) (X 9) w3 := hv10; clear hv10; have hv10 := hV10; clear hV10; generalize X 9 = X9 at *
  have hx8' : Bx w3 (B 8) cs8 180 := hx8; clear hx8; generalize B 8 = b8 at *
  have hn8' : w2.heap.size ≤ b8 := hn8; clear hn8
  clear hv0
  obtain rfl := hv1
  obtain rfl := hv2
  obtain rfl := hv3
  obtain rfl := hv4
  obtain rfl := hv5
  obtain rfl := hv6
  obtain rfl := hv7
  obtain rfl := hv10
  obtain rfl := hg8
  have RC := η (J6 RB2.out hb); clear hb
  have FT_3 := η (FT_2.out.below RC.out ν)
  have FP_3 := η (FP_2.out.below RC.out ν)
  have FR_3 := η (FR_2.out.below RC.out ν)
  have FZ_3 := η (FZ_2.out.below RC.out ν)
  have HB3 := η (HB2.out.trans (RC.out.mono HB2.out.size))
  clear HB2 FT_2 FP_2 FR_2 FZ_2 RC RB2
  have FO := η hx8'; clear hx8'
  have k0 := FO.out.cell 0 (v := .func (.func 142) #[] #[]) rfl
  have vR0 := FR_3.out.cell 0 (v := .int .i64 1) rfl
  have vR1 := FR_3.out.cell 1 (v := .int .i64 0) rfl
  have vR2 := FR_3.out.cell 2 (v := .slice none 0 0) rfl
  have vR3 := FR_3.out.cell 3 (v := .int .i64 0) rfl
  have vR4 := FR_3.out.cell 4 (v := .slice none 0 0) rfl
  have vR5 := FR_3.out.cell 5 (v := .slice (some ⟨pb, 0, none⟩) 3 c) rfl
  have vR6 := FR_3.out.cell 6 (v := .slice Q 0 qc) rfl
  go_wp2_with fail
  refine (ZgK _ _ _ _ _ _ _ _ _ _ _ _ _ _ f g _ FT_3.out FP_3.out).mono ?_
  rintro e w4 ⟨rfl, B⟩
  clear vR0 vR1 vR2 vR3 vR4 vR5 vR6
  have HB4 := η (HB3.out.trans (B.mono HB3.out.size))
  have FT_4 := η (FT_3.out.below B ν)
  have FP_4 := η (FP_3.out.below B ν)
  have FR_4 := η (FR_3.out.below B ν)
  have FZ_4 := η (FZ_3.out.below B ν)
  have FO_4 := η (FO.out.below B ν)
  clear B  HB3 FT_3 FP_3 FR_3 FZ_3 FO
  clear k0
  have z0 := FZ_4.out.cell 0 (v := .int .i64 0) rfl; have z1 := FZ_4.out.cell 1 (v := .int .i64 0) rfl; have z2 := FZ_4.out.cell 2 (v := .slice none 0 0) rfl; have y0 := FZ_4.out.free 0; have y1 := FZ_4.out.free 1; have y2 := FZ_4.out.free 2
  go_wp2_with fail
  clear z0 z1 z2 y0 y1 y2
  have HZ := η (((FZ_4.out.set 0 (.int .i64 (sg (det (f 0) (g 0) (f 1) (g 1) (f 2) (g 2)) + 1))).set 1 (.int .i64 0)).set 2 (.slice none 0 0))
  have HBE := η (((HB4.out.setCell (p := ⟨w.heap.size + 1, 0, none⟩) (by show w.heap.size ≤ w.heap.size + 1; omega) (.int .i64 (sg (det (f 0) (g 0) (f 1) (g 1) (f 2) (g 2)) + 1))).setCell (p := ⟨w.heap.size + 1, 1, none⟩) (by show w.heap.size ≤ w.heap.size + 1; omega) (.int .i64 0)).setCell (p := ⟨w.heap.size + 1, 2, none⟩) (by show w.heap.size ≤ w.heap.size + 1; omega) (.slice none 0 0))
  generalize (((w4.setCell ⟨w.heap.size + 1, 0, none⟩ (.int .i64 (sg (det (f 0) (g 0) (f 1) (g 1) (f 2) (g 2)) + 1))).setCell ⟨w.heap.size + 1, 1, none⟩ (.int .i64 0)).setCell ⟨w.heap.size + 1, 2, none⟩ (.slice none 0 0)) = wz at *
  have q0 := HZ.out.cell 0 (v := .int .i64 (sg (det (f 0) (g 0) (f 1) (g 1) (f 2) (g 2)) + 1)) rfl
  have q1 := HZ.out.cell 1 (v := .int .i64 0) rfl
  have q2 := HZ.out.cell 2 (v := .slice none 0 0) rfl
  refine bodyPost_ret (v := .tuple #[.agg #[.int .i64 (sg (det (f 0) (g 0) (f 1) (g 1) (f 2) (g 2)) + 1), .int .i64 0, .slice none 0 0], .int .i64 0]) (by simp [results, Tryz.results87, go_sem, q0, q1, q2]) rfl ⟨rfl, HBE.out⟩
end Go.Proofs.YtjdiilkljgljkaaGreatDoor
