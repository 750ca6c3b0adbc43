/- Slices of points: what they hold, as two functions of the index; how that is kept; how an argument that is one is opened; copy of points. Plain facts on memory; no program's run. -/
import Derived.Test.YtoikcgmdlccdbaaDoorOpenPt
import Derived.Test.YtoikcgmdlccdbaaDoorBox
import Derived.Test.YtoikcgmdlccdbaaDoorGeo
import Derived.Deep.SlicePairs
import Derived.Laws.CopyOwn
namespace Go.Proofs.YtoikcgmdlccdbaaDoor
set_option linter.unusedVariables false
set_option linter.unusedSimpArgs false
open Go.RowKit Wd

/-- the slice '.slice A n c' holds the points (f 0, g 0) .. -/
structure Pts (w : World) (A : Option Addr) (n c : Nat) (f g : Nat → Int) : Prop where
  cap : n ≤ c
  max : c ≤ maxLen
  isi : ∀ i, i < n → IsI (f i) ∧ IsI (g i)
  at_ : 0 < n → ∃ b off, A = some ⟨b, off, none⟩ ∧ b < w.heap.size ∧ ∀ i, i < n → w.cell? ⟨b, off + i * 2, none⟩ = some (.int .i64 (f i)) ∧ w.cell? ⟨b, off + i * 2 + 1, none⟩ = some (.int .i64 (g i))

theorem Pts.below {w w' : World} {B : Nat} {A : Option Addr} {n c : Nat} {f g : Nat → Int} (h : Pts w A n c f g) (hb : Below B w w') (hB : w.heap.size ≤ B) : Pts w' A n c f g :=
  ⟨h.cap, h.max, h.isi, fun hn => by
    obtain ⟨b, off, e, hlt, hc⟩ := h.at_ hn
    exact ⟨b, off, e, Nat.lt_of_lt_of_le hlt hb.size, fun i hi => ⟨(hb.cell (p := ⟨b, off + i * 2, none⟩) (by show b < B; omega)).trans (hc i hi).1, (hb.cell (p := ⟨b, off + i * 2 + 1, none⟩) (by show b < B; omega)).trans (hc i hi).2⟩⟩⟩
theorem Pts.alloc {w : World} {A : Option Addr} {n c : Nat} {f g : Nat → Int} (h : Pts w A n c f g) (o : Obj) : Pts (w.alloc o) A n c f g :=
  h.below ((Below.refl w.heap.size w).alloc (Nat.le_refl _) o) (Nat.le_refl _)
theorem Pts.drew {w : World} {A : Option Addr} {n c : Nat} {f g : Nat → Int} (h : Pts w A n c f g) : Pts w.drew A n c f g := h.below (Below.refl w.heap.size w).drew (Nat.le_refl _)

/-- three points in a box are a slice -/
def sel3 (x y z : Int) : Nat → Int := fun i => if i = 0 then x else if i = 1 then y else z
theorem Bx.pts3 {w : World} {b : Nat} {ax ay bx b_ cx cy : Int} {t : TypeId} (h : Bx w b #[.int .i64 ax, .int .i64 ay, .int .i64 bx, .int .i64 b_, .int .i64 cx, .int .i64 cy] t) (hp : P3 ax ay bx b_ cx cy) :
    Pts w (some ⟨b, 0, none⟩) 3 3 (sel3 ax bx cx) (sel3 ay b_ cy) :=
  ⟨Nat.le_refl _, by decide, fun i hi => by
    match i, hi with
    | 0, _ => exact ⟨hp.a, hp.b⟩
    | 1, _ => exact ⟨hp.c, hp.d⟩
    | 2, _ => exact ⟨hp.e, hp.f⟩, fun _ => ⟨b, 0, rfl, h.lt, fun i hi => by
    match i, hi with
    | 0, _ => exact ⟨h.cell 0 rfl, h.cell 1 rfl⟩
    | 1, _ => exact ⟨h.cell 2 rfl, h.cell 3 rfl⟩
    | 2, _ => exact ⟨h.cell 4 rfl, h.cell 5 rfl⟩⟩⟩

namespace Op
open Go.ChangeShapes Go.WideShapes Go.ChangeAt
variable {H : Type} {enc : TypeId × Value → H} {P : Program} {w : World} {base : Nat} {spare : Nat → Bool} {held : Bool}

/-- a slice of points -/
theorem open_ptsl {t e k : TypeId} {f0 f1 : Field} {A : Option Addr} {n c : Nat} {d : DataW H} {p : List MemPlace} (ht : P.underlying t = some (.slice e)) (he : P.underlying e = some (.struct #[f0, f1])) (h0 : f0.type = k) (h1 : f1.type = k) (o0 : f0.offset = 0) (o1 : f1.offset = 1) (hk : P.underlying k = some (.int .i64)) (ck : P.cellsOf k = 1) (ce : P.cellsOf e = 2)
    (h : DataW.Trod enc P w base spare held t (.slice A n c) d p) : ∃ f g : Nat → Int, Pts w A n c f g := by
  obtain ⟨fuel, hf⟩ := h
  rcases Go.Deep.open_slice_pairs ht he ce o0 o1 (by rw [h0, ck]) (by rw [h1, ck]) hf with ⟨hcs, _⟩ | ⟨a, len, cap, m, n', V0, V1, D0, D1, Q0, Q1, hcs, _, hl, hm, hmm, _, hx⟩
  · have e0 : Value.slice A n c = .slice none 0 0 := by simpa [Value.cells] using hcs
    injection e0 with e1 e2 e3
    subst e1 e2 e3
    exact ⟨fun _ => 0, fun _ => 0, Nat.le_refl _, Nat.zero_le _, fun i hi => absurd hi (Nat.not_lt_zero _), fun h => absurd h (Nat.lt_irrefl _)⟩
  · have e0 : Value.slice A n c = .slice (some a) len cap := by simpa [Value.cells] using hcs
    injection e0 with e1 e2 e3
    subst e1 e2 e3
    have hmn : n ≤ m := by rw [hmm]; split <;> omega
    have hV : ∀ i, i < n → ∃ y z : Int, V0 i = .int .i64 y ∧ V1 i = .int .i64 z ∧ IsI y ∧ IsI z := fun i hi => by
      obtain ⟨_, _, q0, q1⟩ := hx i (by omega)
      rw [h0] at q0; rw [h1] at q1
      obtain ⟨y, e2, _, wy⟩ := DataW.trod_int hk q0
      obtain ⟨z, e3, _, wz⟩ := DataW.trod_int hk q1
      simp at e2 e3
      exact ⟨y, z, e2, e3, isI_of_wf wy, isI_of_wf wz⟩
    refine ⟨fun i => match V0 i with | .int _ y => y | _ => 0, fun i => match V1 i with | .int _ y => y | _ => 0, hl, hm, fun i hi => ?_, fun hn => ?_⟩
    · obtain ⟨y, z, e2, e3, wy, wz⟩ := hV i hi
      simp only [e2, e3]; exact ⟨wy, wz⟩
    · have hc0 := (hx 0 (by omega)).1
      obtain ⟨b, off, sp⟩ := a
      have h0' : w.cell? ⟨b, off, sp⟩ = some (V0 0) := by simpa [Addr.add] using hc0
      obtain ⟨rfl, hlt⟩ := spotless h0'
      refine ⟨b, off, rfl, hlt, fun i hi => ?_⟩
      obtain ⟨y, z, e2, e3, wy, wz⟩ := hV i hi
      have g0 := (hx i (by omega)).1
      have g1 := (hx i (by omega)).2.1
      have ea : ∀ j, (⟨b, off, none⟩ : Addr).add j = ⟨b, off + j, none⟩ := fun j => by unfold Addr.add; split <;> simp_all
      rw [ea] at g0 g1
      simp only [e2, e3] at *
      exact ⟨g0, g1⟩
end Op

/-- copy of whole points over a box's cells -/
theorem run_copy2 {P : Program} (w : World) (dT sT ty elem : TypeId) (g o dLen dCap : Nat) (a : Addr) (sLen sCap m : Nat) (cur : Array Value) (t : TypeId) (cs : List Value)
    (hu : P.underlying dT = some (.slice elem)) (hs : (P.info? elem).map (·.size) = some 2)
    (hg : w.heap[g]? = some (.cells cur t (0, 0))) (hm : m = Nat.min sLen dLen) (hn : cs.length = m * 2)
    (hsrc : ∀ j v, cs[j]? = some v → w.cell? (a.add j) = some v) (hfit : o + cs.length ≤ cur.size) (h1 : ∀ v ∈ cs, v.oneCell' = true) :
    (Builtin.copy_ #[dT, sT] ty #[.slice (some ⟨g, o, none⟩) dLen dCap, .slice (some a) sLen sCap]).run P w =
      .ok (goInt m) (w.setRow g (cur.toList.take o ++ cs ++ cur.toList.drop (o + cs.length)).toArray) := by
  have hl := run_loadCells_list (P := P) w a cs hsrc
  have hst := run_storeCells_at P g o t cs 0 cur w hg (by simpa using hfit) h1
  cases hq : P.info? elem with
  | none => simp [hq] at hs
  | some i =>
    have hi : i.size = 2 := by simpa [hq] using hs
    simp [Builtin.copy_, run_underlying hu, Builtin.lenOf, Builtin.firstCells, sizeOf, typeInfo, hq, hi, ← hm, ← hn, hl, hst]

/-- copy of whole points over a whole box -/
theorem copy2_ex {P : Program} (w : World) (dT sT ty elem : TypeId) (hu : P.underlying dT = some (.slice elem)) (hsz : (P.info? elem).map (·.size) = some 2)
    (g dLen dCap : Nat) (ad : Addr) (sLen sCap m : Nat) (cur : Array Value) (t : TypeId) (hg : Bx w g cur t) (cs : List Value) (hm : m = Nat.min sLen dLen) (hn : cs.length = m * 2)
    (hsrc : ∀ j v, cs[j]? = some v → w.cell? (ad.add j) = some v) (hfit : cs.length = cur.size) (h1 : ∀ v ∈ cs, v.oneCell' = true) (B : Nat) (w0 : World) (hb : Below B w0 w) (hBg : B ≤ g) :
    ∃ w', (Builtin.copy_ #[dT, sT] ty #[.slice (some ⟨g, 0, none⟩) dLen dCap, .slice (some ad) sLen sCap]).run P w = .ok (goInt m) w' ∧ Bx w' g cs.toArray t ∧ (∀ c, c ≠ g → w'.heap[c]? = w.heap[c]?) ∧ Below B w0 w' := by
  have hrun := run_copy2 (P := P) w dT sT ty elem g 0 dLen dCap ad sLen sCap m cur t cs hu hsz hg hm hn hsrc (by omega) h1
  have e : (cur.toList.take 0 ++ cs ++ cur.toList.drop (0 + cs.length)).toArray = cs.toArray := by
    rw [List.drop_eq_nil_of_le (by simp; omega)]; simp
  rw [e] at hrun
  exact ⟨_, hrun, setRow_heap w g _ _ t _ hg, fun c hc => setRow_other w g c _ hc, below_setRow hb hBg _⟩

/-- six cells one behind the other -/
structure C6 (w : World) (b off : Nat) (ax ay bx b_ cx cy : Int) : Prop where
  lt : b < w.heap.size
  c0 : w.cell? ⟨b, off, none⟩ = some (.int .i64 ax)
  c1 : w.cell? ⟨b, off + 1, none⟩ = some (.int .i64 ay)
  c2 : w.cell? ⟨b, off + 2, none⟩ = some (.int .i64 bx)
  c3 : w.cell? ⟨b, off + 3, none⟩ = some (.int .i64 b_)
  c4 : w.cell? ⟨b, off + 4, none⟩ = some (.int .i64 cx)
  c5 : w.cell? ⟨b, off + 5, none⟩ = some (.int .i64 cy)
theorem C6.below {w w' : World} {B b off : Nat} {ax ay bx b_ cx cy : Int} (h : C6 w b off ax ay bx b_ cx cy) (hb : Below B w w') (hB : w.heap.size ≤ B) : C6 w' b off ax ay bx b_ cx cy := by
  have hlt := h.lt
  have k : ∀ o, w'.cell? ⟨b, o, none⟩ = w.cell? ⟨b, o, none⟩ := fun o => hb.cell (p := ⟨b, o, none⟩) (by show b < B; omega)
  exact ⟨Nat.lt_of_lt_of_le h.lt hb.size, (k _).trans h.c0, (k _).trans h.c1, (k _).trans h.c2, (k _).trans h.c3, (k _).trans h.c4, (k _).trans h.c5⟩
theorem C6.alloc {w : World} {b off : Nat} {ax ay bx b_ cx cy : Int} (h : C6 w b off ax ay bx b_ cx cy) (o : Obj) : C6 (w.alloc o) b off ax ay bx b_ cx cy :=
  h.below ((Below.refl w.heap.size w).alloc (Nat.le_refl _) o) (Nat.le_refl _)
theorem C6.src {w : World} {b off : Nat} {ax ay bx b_ cx cy : Int} (h : C6 w b off ax ay bx b_ cx cy) :
    ∀ j v, [Value.int .i64 ax, .int .i64 ay, .int .i64 bx, .int .i64 b_, .int .i64 cx, .int .i64 cy][j]? = some v → w.cell? ((⟨b, off, none⟩ : Addr).add j) = some v := by
  intro j v hj
  match j, hj with
  | 0, hj => simp at hj; subst hj; simpa [Addr.add] using h.c0
  | 1, hj => simp at hj; subst hj; simpa [Addr.add] using h.c1
  | 2, hj => simp at hj; subst hj; simpa [Addr.add] using h.c2
  | 3, hj => simp at hj; subst hj; simpa [Addr.add] using h.c3
  | 4, hj => simp at hj; subst hj; simpa [Addr.add] using h.c4
  | 5, hj => simp at hj; subst hj; simpa [Addr.add] using h.c5
  | j + 6, hj => simp at hj
/-- a slice of three points -/
structure T3 (w : World) (A : Option Addr) (c : Nat) (ax ay bx b_ cx cy : Int) : Prop where
  cap : 3 ≤ c
  max : c ≤ maxLen
  at_ : ∃ b off, A = some ⟨b, off, none⟩ ∧ C6 w b off ax ay bx b_ cx cy
theorem T3.below {w w' : World} {B : Nat} {A : Option Addr} {c : Nat} {ax ay bx b_ cx cy : Int} (h : T3 w A c ax ay bx b_ cx cy) (hb : Below B w w') (hB : w.heap.size ≤ B) : T3 w' A c ax ay bx b_ cx cy :=
  ⟨h.cap, h.max, by obtain ⟨b, off, e, hc⟩ := h.at_; exact ⟨b, off, e, hc.below hb hB⟩⟩
theorem T3.alloc {w : World} {A : Option Addr} {c : Nat} {ax ay bx b_ cx cy : Int} (h : T3 w A c ax ay bx b_ cx cy) (o : Obj) : T3 (w.alloc o) A c ax ay bx b_ cx cy :=
  h.below ((Below.refl w.heap.size w).alloc (Nat.le_refl _) o) (Nat.le_refl _)
theorem Pts.t3 {w : World} {A : Option Addr} {c : Nat} {f g : Nat → Int} (h : Pts w A 3 c f g) : T3 w A c (f 0) (g 0) (f 1) (g 1) (f 2) (g 2) :=
  ⟨h.cap, h.max, by
    obtain ⟨b, off, e, hlt, hc⟩ := h.at_ (by omega)
    exact ⟨b, off, e, hlt, (hc 0 (by omega)).1, (hc 0 (by omega)).2, (hc 1 (by omega)).1, (hc 1 (by omega)).2, (hc 2 (by omega)).1, (hc 2 (by omega)).2⟩⟩
theorem Pts.p3 {w : World} {A : Option Addr} {c : Nat} {f g : Nat → Int} (h : Pts w A 3 c f g) : P3 (f 0) (g 0) (f 1) (g 1) (f 2) (g 2) :=
  ⟨(h.isi 0 (by omega)).1, (h.isi 0 (by omega)).2, (h.isi 1 (by omega)).1, (h.isi 1 (by omega)).2, (h.isi 2 (by omega)).1, (h.isi 2 (by omega)).2⟩
theorem Bx.c6 {w : World} {b : Nat} {ax ay bx b_ cx cy : Int} {t : TypeId} (h : Bx w b #[.int .i64 ax, .int .i64 ay, .int .i64 bx, .int .i64 b_, .int .i64 cx, .int .i64 cy] t) : C6 w b 0 ax ay bx b_ cx cy :=
  ⟨h.lt, h.cell 0 rfl, h.cell 1 rfl, h.cell 2 rfl, h.cell 3 rfl, h.cell 4 rfl, h.cell 5 rfl⟩
theorem Bx.t3 {w : World} {b : Nat} {ax ay bx b_ cx cy : Int} {t : TypeId} (h : Bx w b #[.int .i64 ax, .int .i64 ay, .int .i64 bx, .int .i64 b_, .int .i64 cx, .int .i64 cy] t) : T3 w (some ⟨b, 0, none⟩) 3 ax ay bx b_ cx cy :=
  ⟨Nat.le_refl _, by decide, b, 0, rfl, h.c6⟩
end Go.Proofs.YtoikcgmdlccdbaaDoor
