/- Part b of the lemmas of TopBatch: contracts of functions of the program, and plain laws of numbers, bytes and memory. -/
import Derived.Test.YtjdiilkljgljkaaGreatDoorMa
import Derived.Deep.RegionLaw
import Derived.Laws.AppendOwn
import Derived.OwnWalk
import Derived.Deep.RegionHeld3
import Derived.Shelf.Spec.BitsCarry
import Derived.WalkLawsBesides
import Derived.Deep.QuietTactic
import Derived.BigQuiet
import Derived.RegionTactic
import Derived.Scope
import Derived.Test.YtjdiilkljgljkaaGreatDoorProg
import Derived.Lib.Hide
import Derived.Laws.Externs
set_option maxHeartbeats 4000000
namespace Go.Proofs.YtjdiilkljgljkaaGreatDoor
set_option linter.unusedVariables false
set_option linter.unusedSimpArgs false
open Go.RowKit Wd
structure ValD where
 op : Nat
 slot : Nat
 P : Value → World → Prop
def NoU (cs : Array Value) : Prop := ∀ u ∈ cs.toList, ∀ x, u ≠ .int .u64 x
structure Stay (p : World → Prop) : Prop where
 below : ∀ w w', Below w.heap.size w w' → p w → p w'
 store : ∀ (w : World) (B : Nat) (cs : Array Value) (ty : TypeId), NoU cs → ty ≠ 3 → Bx w B cs ty → ∀ (k : Nat) (v : Value), p w → p (w.setCell ⟨B, k, none⟩ v)
theorem Stay.const (p : Prop) : Stay (fun _ => p) := ⟨fun _ _ _ h => h, fun _ _ _ _ _ _ _ _ _ h => h⟩
theorem Stay.and {p q : World → Prop} (h : Stay p) (g : Stay q) : Stay (fun w => p w ∧ q w) := ⟨fun w w' b x => ⟨h.below w w' b x.1, g.below w w' b x.2⟩, fun w B cs ty a b c k v x => ⟨h.store w B cs ty a b c k v x.1, g.store w B cs ty a b c k v x.2⟩⟩
theorem Stay.ex {α : Sort _} {p : α → World → Prop} (h : ∀ a, Stay (p a)) : Stay (fun w => ∃ a, p a w) := ⟨fun w w' b ⟨a, x⟩ => ⟨a, (h a).below w w' b x⟩, fun w B cs ty e b c k v ⟨a, x⟩ => ⟨a, (h a).store w B cs ty e b c k v x⟩⟩
theorem Stay.sl (A : Option Addr) (n c : Nat) (f : Nat → Int) : Stay (fun w => Sl w .u64 A n c f) := ⟨fun w w' b h => h.below b ν, fun w B cs ty a b c k v h => h.set c a⟩
theorem J7 {xs : Array Value} {t : Nat} {v : Value} (h : xs[t]? = some v) : xs.getD t undef = v := by rw [Array.getD_eq_getD_getElem?, h]; rfl
theorem Stay.nm (A : Option Addr) (n c : Nat) (x : Int) : Stay (fun w => Nm w A n c x) := ⟨fun w w' b h => h.below b ν, fun w B cs ty a b c k v h => h.setB c b⟩
theorem Za4 {α β : Type _} {f : α → β} {l : List α} (h : (l.map f).Nodup) {u v : α} (hu : u ∈ l) (hv : v ∈ l) (e : f u = f v) : u = v := by
 induction l with
 | nil => cases hu
 | cons x xs ih =>
  simp only [List.map_cons, List.nodup_cons, List.mem_map, not_exists, not_and] at h
  rcases List.mem_cons.1 hu with rfl | hu'
  ·rcases List.mem_cons.1 hv with rfl | hv'
   ·rfl
   ·exact absurd e.symm (h.1 v hv')
  ·rcases List.mem_cons.1 hv with rfl | hv'
   ·exact absurd e (h.1 u hu')
   ·exact ih h.2 hu' hv'
def allP {α : Type _} (p : α → Prop) : List α → Prop
 | [] => True
 | b :: bs => p b ∧ allP p bs
theorem allP.mem {α : Type _} {p : α → Prop} : ∀ {bs : List α}, allP p bs → ∀ b ∈ bs, p b
 | b :: bs, h, c, hc => by
  rcases List.mem_cons.1 hc with rfl | hc
  ·exact h.1
  ·exact allP.mem h.2 c hc
theorem allP.of {α : Type _} {p : α → Prop} : ∀ {bs : List α}, (∀ b ∈ bs, p b) → allP p bs
 | [], _ => trivial
 | b :: bs, h => ⟨h b (by simp), allP.of (fun c hc => h c (List.mem_cons_of_mem _ hc))⟩
def depB (ops : Array Oper) (i j : Nat) : Bool := ((ops[i]?).map fun o => o.after.any fun e => Region.binds .any e && (e.on == j)).getD false
def Zir (ops : Array Oper) (bs : List BoxD) (vs : List (Nat × Nat)) (n : Nat) : Bool :=
 decide ((bs.map (·.slot) ++ vs.map (·.2)).Nodup) && decide ((vs.map (·.1)).Nodup) && vs.all (fun v => decide (v.1 < ops.size) && decide (v.2 < n) && bs.all fun b => b.al != v.1 && b.st != v.1) && bs.all (fun b => decide (b.slot < n)) &&
 (List.range ops.size).all fun i => (bs.any fun b => b.al == i || b.st == i) || vs.any fun v => v.1 == i
theorem ZcF {p : World → Prop} (hp : Stay p) {B : Nat} {ty : TypeId} (hty : ty ≠ 3) : ∀ (l : List Value) (k : Nat) (w : World) (cs : Array Value), NoU cs → (∀ u ∈ l, ∀ x, u ≠ .int .u64 x) → Bx w B cs ty → p w → p (JS w B k l)
 | [], _, _, _, _, _, _, h => h
 | v :: l, k, w, cs, hc, hl, hb, h => by
  refine ZcF hp hty l (k + 1) _ (cs.setIfInBounds k v) ?_ (fun u hu => hl u (List.mem_cons_of_mem _ hu)) (hb.set k v) (hp.store w B cs ty hc hty hb k v h)
  intro u hu x
  rw [Array.toList_setIfInBounds] at hu
  rcases List.mem_or_eq_of_mem_set hu with h1 | h1
  ·exact hc u h1 x
  ·rw [h1]; exact hl v (by simp) x
abbrev BoxP := BoxD × (Array Value → World → Prop)
section
variable {P : Program} {ops : Array Oper} {Q : Exit → Act → World → Prop} {S : World → Prop}
theorem Zgv {a0 : Act} {w0 : World} (bgs : List BoxP) (vs : List ValD) (hB : Zdb ops (bgs.map (·.1)) = true) (hV : Zir ops (bgs.map (·.1)) (vs.map fun v => (v.op, v.slot)) a0.tmps.size = true)
  (hS : ∀ w, S w)
  (hsb : allP (fun b => (∀ cs, Stay (b.2 cs)) ∧ b.1.ty ≠ 3 ∧ NoU b.1.z) bgs) (hsv : allP (fun v => ∀ x, Stay (v.P x)) vs)
  (hal : allP (fun b => ∀ a w K, K (a.put (some b.1.slot) (JI w.heap.size)) (w.alloc (.cells b.1.z b.1.ty)) → wpOp P ops Q b.1.al K a w) bgs)
  (hst : allP (fun b => ∀ (a : Act) (w : World) (B : Nat) K, (∀ t, ((bgs.map (·.1.slot)) ++ vs.map (·.slot)).contains t = false → a.tmps[t]? = a0.tmps[t]?) → (∀ (k : Nat) (u : ValD), vs[k]? = some u → depB ops b.1.st u.op = true → ∃ x, a.tmps[u.slot]? = some x ∧ u.P x w) →
   a.tmps[b.1.slot]? = some (JI B) → Bx w B b.1.z b.1.ty → (∀ l : List Value, b.1.z.size = l.length → NoU l.toArray → b.2 l.toArray w → K a (JS w B 0 l)) → wpOp P ops Q b.1.st K a w) bgs)
  (hval : allP (fun v => ∀ (a : Act) (w : World) K, Below w0.heap.size w0 w → (∀ t, ((bgs.map (·.1.slot)) ++ vs.map (·.slot)).contains t = false → a.tmps[t]? = a0.tmps[t]?) → (∀ (k : Nat) (u : ValD), vs[k]? = some u → depB ops v.op u.op = true → ∃ x, a.tmps[u.slot]? = some x ∧ u.P x w) →
   (∀ x w', Below w.heap.size w w' → v.P x w' → K (a.put (some v.slot) x) w') → wpOp P ops Q v.op K a w) vs)
  (hend : ∀ w (X : Nat → Value) (B : Nat → Nat), Below w0.heap.size w0 w → allP (fun v => v.P (X v.slot) w) vs → allP (fun b => w0.heap.size ≤ B b.1.slot ∧ ∃ cs, Bx w (B b.1.slot) cs b.1.ty ∧ b.2 cs w) bgs → (∀ b ∈ bgs.map (·.1), ∀ c ∈ bgs.map (·.1), b ≠ c → B b.slot ≠ B c.slot) →
   Q .normal (vs.foldl (fun a v => a.put (some v.slot) (X v.slot)) (bgs.foldl (fun a b => a.put (some b.1.slot) (JI (B b.1.slot))) a0)) w) :
  wpAnyH P .any ops Q S ops.size (Array.replicate ops.size false) a0 w0 := by
 simp only [Zir, Bool.and_eq_true, decide_eq_true_eq, List.all_eq_true, List.map_map] at hV
 obtain ⟨⟨⟨⟨n1, n2⟩, n3⟩, n4⟩, n5⟩ := hV
 have v3 : ∀ v ∈ vs, v.op < ops.size ∧ v.slot < a0.tmps.size ∧ ∀ b ∈ bgs, b.1.al ≠ v.op ∧ b.1.st ≠ v.op := fun v hv => by
  have := n3 (v.op, v.slot) (List.mem_map.2 ⟨v, hv, rfl⟩)
  refine ⟨this.1.1, this.1.2, fun b hb => ?_⟩
  have h2 := this.2 b.1 (List.mem_map.2 ⟨b, hb, rfl⟩)
  simp only [bne_iff_ne, ne_eq] at h2
  exact h2
 have b4 : ∀ b ∈ bgs, b.1.slot < a0.tmps.size := fun b hb => n4 b.1 (List.mem_map.2 ⟨b, hb, rfl⟩)
 have hdisj := (List.nodup_append.1 n1)
 have hapart : ∀ b ∈ bgs, ∀ v ∈ vs, b.1.slot ≠ v.slot := fun b hb v hv => hdisj.2.2 _ (List.mem_map.2 ⟨b, hb, rfl⟩) _ (List.mem_map.2 ⟨v, hv, rfl⟩)
 have hvinj : ∀ u ∈ vs, ∀ v ∈ vs, u.slot = v.slot → u = v := fun u hu v hv e => Za4 (f := ValD.slot) (by have h := hdisj.2.1; exact h) hu hv e
 have hoinj : ∀ u ∈ vs, ∀ v ∈ vs, u.op = v.op → u = v := fun u hu v hv e => Za4 (f := ValD.op) (by have h := n2; exact h) hu hv e
 have hmem : ∀ {b : BoxD}, b ∈ bgs.map (·.1) → ∃ g, (b, g) ∈ bgs := fun {b} hb => by
  obtain ⟨x, hx, rfl⟩ := List.mem_map.1 hb
  exact ⟨x.2, hx⟩
 have hdep : ∀ {i j : Nat} {o : Oper} {listed : Array Bool}, ops[i]? = some o → (∀ e ∈ o.after, Region.binds .any e = true → listed.getD e.on false = true) → depB ops i j = true → listed.getD j false = true := fun {i j o listed} ho hp hd => by
  unfold depB at hd
  rw [ho] at hd
  simp only [Option.map_some, Option.getD_some, Array.any_eq_true'] at hd
  obtain ⟨e, he, h5⟩ := hd
  simp only [Bool.and_eq_true, beq_iff_eq] at h5
  exact h5.2 ▸ hp e he h5.1
 refine ZeQ (bgs.map (·.1)) hB (fun listed a w => Below w0.heap.size w0 w ∧ a.tmps.size = a0.tmps.size ∧ a.defers = a0.defers ∧ (∀ t, ((bgs.map (·.1.slot)) ++ vs.map (·.slot)).contains t = false → a.tmps[t]? = a0.tmps[t]?) ∧
   ∀ v ∈ vs, listed.getD v.op false = true → ∃ x, a.tmps[v.slot]? = some x ∧ v.P x w)
  (fun b cs w => ∀ g, (b, g) ∈ bgs → g cs w) w0.heap.size ν (by simp) (by unfold unl; exact Nat.le_trans List.countP_le_length (by simp)) ?_ (fun b hb => by obtain ⟨g, hg⟩ := hmem hb; exact b4 _ hg) ?_ ⟨Below.refl _ _, rfl, rfl, fun _ _ => rfl, fun v hv h => ?_⟩ (fun _ _ w _ => hS w) ?_ ?_ ?_ ?_ ?_
 ·intro b hb
  obtain ⟨h1, h2⟩ := (ZcE hB).lt b hb
  constructor <;> simp [Array.getD]
 ·intro b hb cs w w' h hbl g hg
  exact ((hsb.mem _ hg).1 cs).below w w' hbl (h g hg)
 ·have := (v3 v hv).1
  simp [Array.getD] at h
 ·intro b hb
  obtain ⟨g, hg⟩ := hmem hb
  exact hal.mem _ hg
 ·rintro b hb listed a w ⟨j1, j2, j3, j4, j5⟩ hn hi
  obtain ⟨g, hg⟩ := hmem hb
  refine ⟨j1.alloc j1.size _, by simp [Act.put, j2], j3, fun t ht => ?_, fun v hv hl => ?_⟩
  ·have hne : b.slot ≠ t := fun e => by
    have hc : ((bgs.map (·.1.slot)) ++ vs.map (·.slot)).contains t = true := by
     rw [List.contains_iff_mem, List.mem_append]; left; exact List.mem_map.2 ⟨_, hg, e⟩
    rw [hc] at ht; cases ht
   show (a.tmps.setIfInBounds b.slot _)[t]? = _
   rw [Array.getElem?_setIfInBounds_ne hne]; exact j4 t ht
  ·have hne := ((v3 v hv).2.2 _ hg).1
   rw [getD_set_ne false hne] at hl
   obtain ⟨x, hx, hp⟩ := j5 v hv hl
   refine ⟨x, ?_, (hsv.mem v hv x).below _ _ ((Below.refl _ _).alloc ν _) hp⟩
   show (a.tmps.setIfInBounds b.slot _)[v.slot]? = _
   rw [Array.getElem?_setIfInBounds_ne (hapart _ hg v hv)]; exact hx
 ·rintro b hb listed a w B K o ho hi hp ⟨j1, j2, j3, j4, j5⟩ hs hn hbx hK
  obtain ⟨g, hg⟩ := hmem hb
  have hsg := hsb.mem _ hg
  refine hst.mem _ hg a w B K j4 (fun k u hu hd => j5 u (List.mem_of_getElem? hu) (hdep ho hp hd)) hs hbx (fun l hl hnl hgl => ?_)
  have hf := Zca (B := B) (t := b.ty) l 0 w [] b.z.toList rfl (by simpa using hl) (by simpa using hbx)
  have hstay : ∀ {p : World → Prop}, Stay p → p w → p (JS w B 0 l) := fun hp h => ZcF hp hsg.2.1 l 0 w b.z hsg.2.2 (by simpa [NoU] using hnl) hbx h
  refine hK _ l.toArray (by simpa using hf.1) hf.2.1 hf.2.2.1 (fun c hc cs' hgc g' hg' => ?_) (fun g' hg' => ?_) ⟨j1.trans (hf.2.2.2 _ hn), j2, j3, j4, fun v hv hl' => ?_⟩
  ·exact hstay ((hsb.mem _ hg').1 cs') (hgc g' hg')
  ·have : g' = g := congrArg (fun (x : BoxP) => x.2) (Za4 (f := fun (x : BoxP) => x.1.slot) hdisj.1 hg' hg rfl)
   subst this
   exact hstay ((hsg.1 _)) hgl
  ·have hne := ((v3 v hv).2.2 _ hg).2
   rw [getD_set_ne false hne] at hl'
   obtain ⟨x, hx, hpx⟩ := j5 v hv hl'
   exact ⟨x, hx, hstay (hsv.mem v hv x) hpx⟩
 ·rintro listed a w i o ho hno hi hp ⟨j1, j2, j3, j4, j5⟩
  have hil : i < ops.size := (Array.getElem?_eq_some_iff.1 ho).1
  have h5 := n5 i (List.mem_range.2 hil)
  simp only [Bool.or_eq_true, List.any_eq_true, beq_iff_eq] at h5
  rcases h5 with ⟨b, hb, h⟩ | ⟨q, hq, rfl⟩
  ·rcases h with h | h
   ·exact absurd h (hno b hb).1
   ·exact absurd h (hno b hb).2
  ·obtain ⟨v, hv, rfl⟩ := List.mem_map.1 hq
   refine hval.mem v hv a w _ j1 j4 (fun k u hu hd => j5 u (List.mem_of_getElem? hu) (hdep ho hp hd)) (fun x w' hbl hx => ⟨⟨j1.trans (hbl.mono j1.size), by simp [Act.put, j2], j3, fun t ht => ?_, fun u hu hl => ?_⟩, hbl, fun b hb => ?_, by simp [Act.put]⟩)
   ·have hne : v.slot ≠ t := fun e => by
     have hc : ((bgs.map (·.1.slot)) ++ vs.map (·.slot)).contains t = true := by
      rw [List.contains_iff_mem, List.mem_append]; right; exact List.mem_map.2 ⟨_, hv, e⟩
     rw [hc] at ht; cases ht
    show (a.tmps.setIfInBounds v.slot _)[t]? = _
    rw [Array.getElem?_setIfInBounds_ne hne]; exact j4 t ht
   ·by_cases e : u = v
    ·subst e
     refine ⟨x, ?_, hx⟩
     show (a.tmps.setIfInBounds u.slot x)[u.slot]? = _
     simp [j2, (v3 u hu).2.1]
    ·have hne : v.op ≠ u.op := fun e' => e (hoinj u hu v hv e'.symm)
     rw [getD_set_ne false hne] at hl
     obtain ⟨y, hy, hpy⟩ := j5 u hu hl
     refine ⟨y, ?_, (hsv.mem u hu y).below _ _ hbl hpy⟩
     show (a.tmps.setIfInBounds v.slot x)[u.slot]? = _
     rw [Array.getElem?_setIfInBounds_ne (fun e' => e (hvinj u hu v hv e'.symm))]; exact hy
   ·obtain ⟨g, hg⟩ := hmem hb
    show (a.tmps.setIfInBounds v.slot x)[b.slot]? = _
    rw [Array.getElem?_setIfInBounds_ne (Ne.symm (hapart _ hg v hv))]
 ·rintro listed a w B hall ⟨j1, j2, j3, j4, j5⟩ hsz hb hd
  have hval' : ∀ v ∈ vs, ∃ x, a.tmps[v.slot]? = some x ∧ v.P x w := fun v hv => j5 v hv (hall _ (v3 v hv).1)
  obtain ⟨X, hX⟩ : ∃ X : Nat → Value, ∀ t, X t = (a.tmps[t]?).getD undef := ⟨_, fun _ => rfl⟩
  have hf := ZhO (bs := bgs.map (·.1)) (B := B) (a0 := a0) (fun b hb => by obtain ⟨g, hg⟩ := hmem hb; exact b4 _ hg)
  rw [List.foldl_map] at hf
  have hfv : ∀ (l : List ValD) (a1 : Act), (∀ v ∈ l, v.slot < a1.tmps.size) → (l.foldl (fun a v => a.put (some v.slot) (X v.slot)) a1).defers = a1.defers ∧ (l.foldl (fun a v => a.put (some v.slot) (X v.slot)) a1).tmps.size = a1.tmps.size ∧
    ∀ t, (l.foldl (fun a v => a.put (some v.slot) (X v.slot)) a1).tmps[t]? = if t ∈ l.map (·.slot) then some (X t) else a1.tmps[t]? := fun l => by
   induction l with
   | nil => intro a1 _; exact ⟨rfl, rfl, fun t => by simp⟩
   | cons x xs ih =>
    intro a1 h
    have hx := h x (by simp)
    have hs : (a1.put (some x.slot) (X x.slot)).tmps.size = a1.tmps.size := by simp [Act.put]
    obtain ⟨h1, h2, h3⟩ := ih (a1.put (some x.slot) (X x.slot)) (fun b hb => by rw [hs]; exact h b (List.mem_cons_of_mem _ hb))
    simp only [List.foldl_cons]
    refine ⟨h1.trans rfl, h2.trans hs, fun t => ?_⟩
    rw [h3 t, Za0 hx]
    simp only [List.map_cons, List.mem_cons]
    by_cases e : t ∈ xs.map (·.slot)
    ·simp [e]
    ·by_cases e2 : x.slot = t
     ·subst e2; simp [e]
     ·simp [e, e2, Ne.symm e2]
  obtain ⟨f1, f2, f3⟩ := hfv vs (bgs.foldl (fun a b => a.put (some b.1.slot) (JI (B b.1.slot))) a0) (fun v hv => by rw [hf.2.1]; exact (v3 v hv).2.1)
  have ha : a = vs.foldl (fun a v => a.put (some v.slot) (X v.slot)) (bgs.foldl (fun a b => a.put (some b.1.slot) (JI (B b.1.slot))) a0) := by
   have ht : a.tmps = (vs.foldl (fun a v => a.put (some v.slot) (X v.slot)) (bgs.foldl (fun a b => a.put (some b.1.slot) (JI (B b.1.slot))) a0)).tmps := by
    apply Array.ext_getElem?
    intro t
    rw [f3 t, hf.2.2 t]
    by_cases e : t ∈ vs.map (·.slot)
    ·rw [if_pos e]
     obtain ⟨v, hv, rfl⟩ := List.mem_map.1 e
     obtain ⟨x, hx, _⟩ := hval' v hv
     rw [hX, hx]; rfl
    ·rw [if_neg e]
     by_cases e2 : t ∈ (bgs.map (·.1)).map (·.slot)
     ·rw [if_pos e2]
      obtain ⟨b, hbm, rfl⟩ := List.mem_map.1 e2
      exact (hb b hbm).1
     ·rw [if_neg e2]
      refine j4 t ?_
      cases hc : ((bgs.map (·.1.slot)) ++ vs.map (·.slot)).contains t with
      | false => rfl
      | true =>
       rw [List.contains_iff_mem, List.mem_append] at hc
       rcases hc with h | h
       ·exact absurd (by simpa [List.map_map, Function.comp] using h) e2
       ·exact absurd h e
   have hdf := j3.trans (f1.trans hf.1).symm
   revert ht hdf
   generalize vs.foldl (fun a v => a.put (some v.slot) (X v.slot)) (bgs.foldl (fun a b => a.put (some b.1.slot) (JI (B b.1.slot))) a0) = a1
   cases a; cases a1
   intro ht hdf
   simp only at ht hdf
   subst ht hdf
   rfl
  rw [ha]
  refine hend w X B j1 (allP.of fun v hv => ?_) (allP.of fun b hbm => ?_) hd
  ·obtain ⟨x, hx, hp⟩ := hval' v hv
   rw [hX, hx]; exact hp
  ·obtain ⟨_, h2, cs, h3, h4⟩ := hb b.1 (List.mem_map.2 ⟨b, hbm, rfl⟩)
   exact ⟨h2, cs, h3, h4 b.2 hbm⟩
end
end Go.Proofs.YtjdiilkljgljkaaGreatDoor
namespace Go.Proofs.YtjdiilkljgljkaaGreatDoor
set_option linter.unusedVariables false
set_option linter.unusedSimpArgs false
open Go
theorem Za3 {P : Program} {ops : Array Oper} {o : Oper} {a : Act} {w : World} {K : Act → World → Prop} {Q : Exit → Act → World → Prop} {E : Prop}
  (hg : o.guard = none) (s x : Operand) (t : TypeId) (hop : o.op = Op.call { callee := Callee.builtin Builtin.append, args := #[s, x], argTypes := #[t, t] })
  (base : Nat) (e : TypeId) (i : TypeInfo) (z : Value) (size bytes : Nat) (h1 : P.underlying t = some (.slice e)) (h2 : P.info? e = some i) (h3 : i.zero = some z) (h4 : i.size = size) (h5 : i.bytes = bytes) (h6 : z.cells.size = size) (h7 : 0 < size)
  (v : Value) (k : Nat) (xs : List Value) (hs : a.eval s = v) (hown : w.ownsRow base e size v k xs) (ad : Addr) (m c : Nat) (news : List Value) (hx : a.eval x = .slice (some ad) m c) (hn : news.length = m * size)
  (hc : ∀ j u, news[j]? = some u → w.cell? (ad.add j) = some u) (h1c : ∀ u ∈ news, u.oneCell' = true) (b1 : k + m ≤ maxLen) (b2 : (k + m) * bytes ≤ 140737488355328) (b3 : base ≤ w.heap.size)
  (hK : ∀ v' w', w'.ownsRow base e size v' (k + m) (xs ++ news) → w.grownBy w' v.ownBlock → K (a.put o.dst v') w') :
  if Region.wanted o (yielded ops a.tmps) = true then Oper.wp P o a w K Q else E := by
 have hw : Region.wanted o (yielded ops a.tmps) = true := by simp [Region.wanted, hg]
 rw [if_pos hw]
 obtain ⟨v', w', hrun, r1, r2, _⟩ := run_append_own (P := P) w base t o.type e i z size bytes h1 h2 h3 h4 h5 h6 h7 v k xs hown ad m c news hn hc h1c b1 b2 b3
 subst hs
 unfold Oper.wp
 simp [execOp, hop, resolve, invoke, builtin, hx, hrun, Result.andThen]
 exact hK _ _ r1 r2
end Go.Proofs.YtjdiilkljgljkaaGreatDoor
namespace Go.Proofs.YtjdiilkljgljkaaGreatDoor
set_option linter.unusedVariables false
set_option linter.unusedSimpArgs false
open Go.RowKit Wd
def Wr (w : World) (base bw : Nat) (l : List Int) : Prop := base ≤ bw ∧ ∃ v, Bx w bw #[v] 142 ∧ OwB w base v l
theorem Wr.below {w w' : World} {base bw B : Nat} {l : List Int} (h : Wr w base bw l) (hb : Below B w w') (hB : w.heap.size ≤ B) : Wr w' base bw l := by
 obtain ⟨h1, v, h2, h3⟩ := h; exact ⟨h1, v, h2.below hb hB, h3.below hb hB⟩
theorem Zh0 {x : Int} {k : Nat} (hk : k < 8) : x / 2 ^ (8 * (k : Int)).toNat = x / 256 ^ k := by
 rw [show (8 * (k : Int)).toNat = 8 * k by omega, Int.pow_mul]; rfl
set_option maxRecDepth 100000 in
theorem ZaR (base bw : Nat) (l : List Int) (x : Int) (hx : IsW x) (hl : l.length ≤ 1000000) (w : World) (hb : base ≤ w.heap.size) (hw : Wr w base bw l) :
  Calls Tryz.prog 124 #[.pointer (some ⟨bw, 0, none⟩), .int .u64 x] w fun e w' => e = .returned (.tuple #[]) ∧ Wr w' base bw (l ++ le8 x) ∧ Fr base (some bw) w w' := by
 obtain ⟨i0, hi0, hz0, hz1, hz2⟩ := info_parts Zbh
 have HW := η hw; have HX := η hx; have HLL := η hl; clear hw hx hl
 go_enter Tryz.func124, Tryz.ntmps124
 go_wp2_with fail
 go_loopw [5] (fun ir wr => ∃ k : Nat, k ≤ 8 ∧ ir = .int .i64 (k : Int) ∧ Wr wr base bw (l ++ bytL x k) ∧ Fr base (some bw) w wr) (fun i _ => 8 - (intOf i).toNat)
 case atStart => exact ⟨0, Nat.zero_le _, rfl, by simpa [bytL] using HW.out, Fr.refl _ _ _⟩
 case round =>
  obtain ⟨k, hk, rfl, hwr, hbr⟩ := hrel
  have HBR := η hbr; clear hbr
  by_cases hlt : k < 8
  ·obtain ⟨hbb, v, hbx, hov⟩ := hwr
   obtain ⟨A, c, rfl⟩ := hov.slice
   have hlen : (l ++ bytL x k).length = l.length + k := by simp [ZcP]
   rw [hlen] at hbx hov
   have hown : wr.ownsRow base 5 1 (.slice A (l.length + k) c) (l.length + k) (Jz (l ++ bytL x k)) := by have := hov; unfold OwB at this; rw [hlen] at this; exact this
   have hsz : base ≤ wr.heap.size := Nat.le_trans hb HBR.out.size
   have HOWN := η hown; have FW := η hbx; have HBB := η hbb; have HLN := η hlen; have HSZ := η hsz
   have hlw := hbx.lt
   have hne : ¬ (wr.heap.size = bw) := by omega
   have c0 := hbx.cell 0 (v := .slice A (l.length + k) c) rfl
   clear hbb hbx hov hown hlen hsz
   have hsh := Zh0 (x := x) hlt
   have hwy := ZdB HX.out k
   generalize hy : x / 256 ^ k = y at *
   have HY := η hy; clear hy
   have hq : 0 ≤ x := HX.out.1
   have e1 := Zjr y
   have e2 : IntKind.i64.wrap (8 * (k : Int)) = 8 * (k : Int) := by rw [IntKind.wrap_i64]; omega
   go_wp2_with fail
   have HC := η (Jt wr.drew (.int .u8 (y % 256)) 5)
   have HB1 := η (show Bx (wr.drew.alloc (.cells #[.int .u8 (y % 256)] 5)) bw #[.slice A (l.length + k) c] 142 from (Jf FW.out).alloc _)
   have HF1 := η (show Fr base (some bw) w (wr.drew.alloc (.cells #[.int .u8 (y % 256)] 5)) from HBR.out.drew.alloc HSZ.out _)
   have HO1 := η (show (wr.drew.alloc (.cells #[.int .u8 (y % 256)] 5)).ownsRow base 5 1 (.slice A (l.length + k) c) (l.length + k) (Jz (l ++ bytL x k)) from (HOWN.out.drew).alloc _)
   have HSZ1 := η (show base ≤ (wr.drew.alloc (.cells #[.int .u8 (y % 256)] 5)).heap.size from Nat.le_trans HSZ.out (by simp))
   go_region_law ((refine Za3 rfl _ _ 24 rfl base 5 i0 (.int .u8 0) 1 1 Tryz.underlying24 hi0 hz0 hz1 hz2 rfl (by decide) _ _ _ rfl HO1.out ⟨wr.heap.size, 0, none⟩ 1 1 [.int .u8 (y % 256)] rfl rfl HC.out (JC _ _) (by have := HLL.out; unfold maxLen; omega) (by have := HLL.out; omega) HSZ1.out ?_; intro v' w2 hown2 hgrow; obtain ⟨g2, cap2, rfl, -, -⟩ := hown2.form (by omega); have HB2 := η (ZaT HB1.out (by decide) hgrow HO1.out); have HF2 := η (HF1.out.grown hgrow HO1.out HSZ1.out); have HO2 := η hown2; clear hown2 hgrow c0; have c0 := HB2.out.cell 0 (v := .slice A (l.length + k) c) rfl; have z0 := HB2.out.free 0))
   all_goals
    have HO3 := η (show OwB w2 base (.slice (some ⟨g2, 0, none⟩) (l.length + k + 1) cap2) (l ++ bytL x (k + 1)) from by
     rw [ZdX, ← List.append_assoc]
     refine OwB.snoc (n := l.length + k + 1) ?_ (by rw [HLN.out])
     unfold byt; rw [HY.out]; exact HO2.out)
    have HF3 := η (HF2.out.setEx (i := 0) (v := .slice (some ⟨g2, 0, none⟩) (l.length + k + 1) cap2) HBB.out)
    have HWR := η (show Wr (w2.setCell ⟨bw, 0, none⟩ (.slice (some ⟨g2, 0, none⟩) (l.length + k + 1) cap2)) base bw (l ++ bytL x (k + 1)) from ⟨HBB.out, _, HB2.out.set 0 _, HO3.out.setOther HB2.out (by decide)⟩)
    clear HO3 HO2 HB2 HF2 HB1 HO1 HF1 HC
    go_wp2_with fail
    go_roundw
    case rel => exact ⟨k + 1, by omega, by go_num, HWR.out, HF3.out⟩
    case measure => simp [intOf]; omega
  ·obtain rfl : k = 8 := by omega
   have HWR := η hwr; clear hwr
   go_wp2_with fail
   go_end0
   exact ⟨rfl, HWR.out, HBR.out⟩
theorem Wr.lt {w : World} {base bw : Nat} {l : List Int} (h : Wr w base bw l) : bw < w.heap.size := by obtain ⟨_, v, h2, _⟩ := h; exact h2.lt
theorem Wr.alloc {w : World} {base bw : Nat} {l : List Int} (h : Wr w base bw l) (o : Obj) : Wr (w.alloc o) base bw l :=
 h.below ((Below.refl w.heap.size w).alloc ν o) ν
theorem Wr.drew {w : World} {base bw : Nat} {l : List Int} (h : Wr w base bw l) : Wr w.drew base bw l := h.below (Below.refl w.heap.size w).drew ν
set_option maxRecDepth 100000 in
theorem Zcc (base bw : Nat) (l : List Int) (x y : Int) (hl : l.length ≤ 900000) (w : World) (hb : base ≤ w.heap.size) (hw : Wr w base bw l) :
  Calls Tryz.prog 114 #[.pointer (some ⟨bw, 0, none⟩), .agg #[.int .i64 x, .int .i64 y]] w fun e w' => e = .returned (.tuple #[]) ∧ Wr w' base bw (l ++ ptB x y) ∧ Fr base (some bw) w w' := by
 have HLL := η hl; have HW := η hw; have HLT := η hw.lt; clear hl hw
 go_enter Tryz.func114, Tryz.ntmps114
 go_wp2_with fail
 have HX := η (Bx.new w #[.int .i64 x, .int .i64 y] 23)
 have HW1 := η (HW.out.alloc (.cells #[.int .i64 x, .int .i64 y] 23))
 have F1 := η ((Fr.refl base (some bw) w).alloc hb (.cells #[.int .i64 x, .int .i64 y] 23))
 have HNE := η (show some w.heap.size ≠ some bw from by have := HLT.out; simp; omega)
 generalize w.alloc (.cells #[.int .i64 x, .int .i64 y] 23) = w1 at *
 have HB1 := η (Nat.le_trans hb F1.out.size)
 clear HW HLT
 refine (ZaR base bw l (IntKind.u64.wrap x) (JO _) (by have := HLL.out; omega) _ HB1.out HW1.out).mono ?_
 rintro e w2 ⟨rfl, h2, g2⟩
 have HW2 := η h2; have F2 := η (F1.out.trans g2); have HX2 := η (g2.keep _ _ _ (by decide) HNE.out HX.out); have HB2 := η (Nat.le_trans HB1.out g2.size); clear h2 g2 HW1 HX F1
 have c1 := HX2.out.cell 1 (v := .int .i64 y) rfl
 go_wp2_with fail
 clear c1
 refine (ZaR base bw _ (IntKind.u64.wrap y) (JO _) (by have := HLL.out; simp [ZaH]; omega) _ HB2.out HW2.out).mono ?_
 rintro e w3 ⟨rfl, h3, g3⟩
 have HW3 := η h3; have F3 := η (F2.out.trans g3); clear h3 g3
 go_wp2_with fail
 go_end0
 refine ⟨rfl, ?_, F3.out⟩
 have := HW3.out
 rw [wrapU, wrapU, List.append_assoc] at this
 exact this
def quB (x y d : Int) : List Int := ptB x y ++ le8 d
theorem ZiC (x y d : Int) : (quB x y d).length = 24 := by simp [quB, Zcu, ZaH]
set_option maxRecDepth 100000 in
theorem ZeT (base bw : Nat) (l : List Int) (x y d : Int) (hd : IsW d) (hl : l.length ≤ 800000) (w : World) (hb : base ≤ w.heap.size) (hw : Wr w base bw l) :
  Calls Tryz.prog 116 #[.pointer (some ⟨bw, 0, none⟩), .agg #[.int .i64 x, .int .i64 y, .int .u64 d]] w fun e w' => e = .returned (.tuple #[]) ∧ Wr w' base bw (l ++ quB x y d) ∧ Fr base (some bw) w w' := by
 have HLL := η hl; have HW := η hw; have HLT := η hw.lt; have HD := η hd; clear hl hw hd
 go_enter Tryz.func116, Tryz.ntmps116
 go_wp2_with fail
 have HX := η (Bx.new w #[.int .i64 x, .int .i64 y, .int .u64 d] 63)
 have HW1 := η (HW.out.alloc (.cells #[.int .i64 x, .int .i64 y, .int .u64 d] 63))
 have F1 := η ((Fr.refl base (some bw) w).alloc hb (.cells #[.int .i64 x, .int .i64 y, .int .u64 d] 63))
 have HNE := η (show some w.heap.size ≠ some bw from by have := HLT.out; simp; omega)
 generalize w.alloc (.cells #[.int .i64 x, .int .i64 y, .int .u64 d] 63) = w1 at *
 have HB1 := η (Nat.le_trans hb F1.out.size)
 clear HW HLT
 refine (Zcc base bw l x y (by have := HLL.out; omega) _ HB1.out HW1.out).mono ?_
 rintro e w2 ⟨rfl, h2, g2⟩
 have HW2 := η h2; have F2 := η (F1.out.trans g2); have HX2 := η (g2.keep _ _ _ (by decide) HNE.out HX.out); have HB2 := η (Nat.le_trans HB1.out g2.size); clear h2 g2 HW1 HX F1
 have c1 := HX2.out.cell 2 (v := .int .u64 d) rfl
 go_wp2_with fail
 clear c1
 refine (ZaR base bw _ d HD.out (by have := HLL.out; simp [Zcu]; omega) _ HB2.out HW2.out).mono ?_
 rintro e w3 ⟨rfl, h3, g3⟩
 have HW3 := η h3; have F3 := η (F2.out.trans g3); clear h3 g3
 go_wp2_with fail
 go_end0
 refine ⟨rfl, ?_, F3.out⟩
 have := HW3.out
 rw [List.append_assoc] at this
 exact this
def rcB (v d : Int) : List Int := [v] ++ le8 d
theorem ZiD (v d : Int) : (rcB v d).length = 9 := by simp [rcB, ZaH]
set_option maxRecDepth 100000 in
theorem Zek (base bw : Nat) (l : List Int) (y d : Int) (hy : 0 ≤ y ∧ y ≤ 255) (hd : IsW d) (hl : l.length ≤ 800000) (w : World) (hb : base ≤ w.heap.size) (hw : Wr w base bw l) :
  Calls Tryz.prog 91 #[.pointer (some ⟨bw, 0, none⟩), .agg #[.int .u64 y, .int .u64 d]] w fun e w' => e = .returned (.tuple #[]) ∧ Wr w' base bw (l ++ rcB y d) ∧ Fr base (some bw) w w' := by
 obtain ⟨i0, hi0, hz0, hz1, hz2⟩ := info_parts Zbh
 have HLL := η hl; have HW := η hw; have HLT := η hw.lt; have HD := η hd; clear hl hw hd
 have e1 : IntKind.u8.wrap y = y := by rw [IntKind.wrap_u8]; omega
 have HY := η hy; clear hy
 go_enter Tryz.func91, Tryz.ntmps91
 go_wp2_with fail
 have HX := η (Bx.new w #[.int .u64 y, .int .u64 d] 86)
 have HW1 := η (HW.out.alloc (.cells #[.int .u64 y, .int .u64 d] 86))
 have F1 := η ((Fr.refl base (some bw) w).alloc hb (.cells #[.int .u64 y, .int .u64 d] 86))
 have HNE := η (show some w.heap.size ≠ some bw from by have := HLT.out; simp; omega)
 generalize w.alloc (.cells #[.int .u64 y, .int .u64 d] 86) = w1 at *
 have HB1 := η (Nat.le_trans hb F1.out.size)
 clear HW HLT
 obtain ⟨hbb, v, hbx, hov⟩ := HW1.out
 obtain ⟨A, c, rfl⟩ := hov.slice
 have HOWN := η (show w1.ownsRow base 5 1 (.slice A l.length c) l.length (Jz l) from hov); have FW := η hbx; have HBB := η hbb
 have hlw := hbx.lt
 have hlx := HX.out.lt
 have hne : ¬ (w1.heap.size = bw) := by omega
 have hne2 : ¬ (w1.heap.size = w.heap.size) := by omega
 have c0 := hbx.cell 0 (v := .slice A l.length c) rfl
 have x0 := HX.out.cell 0 (v := .int .u64 y) rfl
 clear hbb hbx hov HW1
 have HC := η (Jt w1.drew (.int .u8 y) 5)
 have HB1' := η (show Bx (w1.drew.alloc (.cells #[.int .u8 y] 5)) bw #[.slice A l.length c] 142 from (Jf FW.out).alloc _)
 have HF1 := η (show Fr base (some bw) w (w1.drew.alloc (.cells #[.int .u8 y] 5)) from F1.out.drew.alloc HB1.out _)
 have HO1 := η (show (w1.drew.alloc (.cells #[.int .u8 y] 5)).ownsRow base 5 1 (.slice A l.length c) l.length (Jz l) from (HOWN.out.drew).alloc _)
 have HXX := η (show Bx (w1.drew.alloc (.cells #[.int .u8 y] 5)) w.heap.size #[.int .u64 y, .int .u64 d] 86 from (Jf HX.out).alloc _)
 have HSZ1 := η (show base ≤ (w1.drew.alloc (.cells #[.int .u8 y] 5)).heap.size from Nat.le_trans HB1.out (by simp))
 go_region_law ((refine Za3 rfl _ _ 24 rfl base 5 i0 (.int .u8 0) 1 1 Tryz.underlying24 hi0 hz0 hz1 hz2 rfl (by decide) _ _ _ rfl HO1.out ⟨w1.heap.size, 0, none⟩ 1 1 [.int .u8 y] rfl rfl HC.out (JC _ _) (by have := HLL.out; unfold maxLen; omega) (by have := HLL.out; omega) HSZ1.out ?_; intro v' w2 hown2 hgrow; obtain ⟨g2, cap2, rfl, -, -⟩ := hown2.form (by omega); have HB2 := η (ZaT HB1'.out (by decide) hgrow HO1.out); have HX2 := η (ZaT HXX.out (by decide) hgrow HO1.out); have HF2 := η (HF1.out.grown hgrow HO1.out HSZ1.out); have HO2 := η hown2; have HS2 := η (Nat.le_trans HSZ1.out hgrow.size); clear hown2 hgrow c0 x0; have c0 := HB2.out.cell 0 (v := .slice A l.length c) rfl; have z0 := HB2.out.free 0))
 all_goals
  have HO3 := η (show OwB w2 base (.slice (some ⟨g2, 0, none⟩) (l.length + 1) cap2) (l ++ [y]) from OwB.snoc (n := l.length + 1) HO2.out rfl)
  have HF3 := η (HF2.out.setEx (i := 0) (v := .slice (some ⟨g2, 0, none⟩) (l.length + 1) cap2) HBB.out)
  have HWR := η (show Wr (w2.setCell ⟨bw, 0, none⟩ (.slice (some ⟨g2, 0, none⟩) (l.length + 1) cap2)) base bw (l ++ [y]) from ⟨HBB.out, _, HB2.out.set 0 _, HO3.out.setOther HB2.out (by decide)⟩)
  have HX3 := η (show Bx (w2.setCell ⟨bw, 0, none⟩ (.slice (some ⟨g2, 0, none⟩) (l.length + 1) cap2)) w.heap.size #[.int .u64 y, .int .u64 d] 86 from HX2.out.other _ (by have := HNE.out; simpa using this))
  have HS3 := η (Nat.le_trans hb HF3.out.size)
  clear HO3 HO2 HB2 HF2 HB1' HO1 HF1 HC c0 z0 HX2 HXX
  generalize w2.setCell ⟨bw, 0, none⟩ (.slice (some ⟨g2, 0, none⟩) (l.length + 1) cap2) = w3 at *
  have c1 := HX3.out.cell 1 (v := .int .u64 d) rfl
  go_wp2_with fail
  clear c1
  refine (ZaR base bw _ d HD.out (by have := HLL.out; simp; omega) _ HS3.out HWR.out).mono ?_
  rintro e w4 ⟨rfl, h4, g4⟩
  have HW4 := η h4; have F4 := η (HF3.out.trans g4); clear h4 g4
  go_wp2_with fail
  go_end0
  refine ⟨rfl, ?_, F4.out⟩
  have := HW4.out
  rw [List.append_assoc] at this
  exact this
def isB (x : Int) : Prop := 0 ≤ x ∧ x ≤ 255
theorem ZiE (x : Int) (i : Nat) : isB (byt x i) := by unfold isB byt; omega
def Rd (w : World) (br : Nat) (l : List Int) : Prop := ∃ A c, Bx w br #[.slice A l.length c] 131 ∧ By w A c l ∧ ∀ a, A = some a → a.block < br
theorem Rd.lt {w : World} {br : Nat} {l : List Int} (h : Rd w br l) : br < w.heap.size := by obtain ⟨A, c, h1, _⟩ := h; exact h1.lt
theorem Rd.below {w w' : World} {br B : Nat} {l : List Int} (h : Rd w br l) (hb : Below B w w') (hB : w.heap.size ≤ B) : Rd w' br l := by
 obtain ⟨A, c, h1, h2, h3⟩ := h; exact ⟨A, c, h1.below hb hB, h2.below hb hB, h3⟩
theorem Rd.alloc {w : World} {br : Nat} {l : List Int} (h : Rd w br l) (o : Obj) : Rd (w.alloc o) br l := h.below ((Below.refl w.heap.size w).alloc ν o) ν
theorem Rd.drew {w : World} {br : Nat} {l : List Int} (h : Rd w br l) : Rd w.drew br l := h.below (Below.refl w.heap.size w).drew ν
theorem ZjV {w w' : World} {br : Nat} {A : Option Addr} {c : Nat} {l : List Int} {X : Option Addr} {n m : Nat} {t : TypeId} (h : By w A c l) (hb : Bx w br #[.slice X n m] t) (hg : w.grownBy w' (some br)) : By w' A c l :=
 ⟨h.cap, h.max, fun h0 => by
  obtain ⟨b, off, e, hlt, hc⟩ := h.at_ h0
  have hne : b ≠ br := fun e2 => by
   subst e2
   have hx : l[0]? = some (l[0]'h0) := List.getElem?_eq_getElem h0
   have h1 := hc 0 _ hx
   unfold Bx at hb
   simp only [World.cell?, hb] at h1
   rcases Nat.eq_zero_or_pos (off + 0) with h2 | h2
   ·simp [h2] at h1
   ·rw [Array.getElem?_eq_none (by simp; omega)] at h1; simp at h1
  refine ⟨b, off, e, Nat.lt_of_lt_of_le hlt hg.size, fun i x hi => ?_⟩
  exact (World.cell?_of_block (w := w) (w' := w') (a := ⟨b, off + i, none⟩) (hg.block b hlt (by simpa using hne))).trans (hc i x hi)⟩
theorem ZaI {w w' w0 : World} {br B : Nat} (h : Below B w0 w) (hB : B ≤ br) (hs : B ≤ w.heap.size) (hg : w.grownBy w' (some br)) : Below B w0 w' := h.grown hg hs (fun k e => by cases e; exact hB)
theorem JK (w : World) (br i : Nat) (v : Value) : w.grownBy (w.setCell ⟨br, i, none⟩ v) (some br) :=
 ⟨rfl, rfl, rfl, by simp [World.setCell], fun k hk hne => Below.heap_setCell _ _ _ _ (by simpa using hne)⟩
theorem Zcw (w : World) (r : Option Nat) : w.grownBy w.drew r := ⟨rfl, rfl, rfl, Nat.le_refl _, fun _ _ _ => rfl⟩
theorem By.tail {w : World} {b off c : Nat} {y : Int} {l : List Int} (h : By w (some ⟨b, off, none⟩) c (y :: l)) : By w (if c = 1 then some ⟨b, off, none⟩ else some ⟨b, off + 1, none⟩) (c - 1) l :=
 ⟨by have := h.cap; simp at this; omega, by have := h.max; omega, fun h0 => by
  obtain ⟨b', o', e, hlt, hc⟩ := h.at_ (by simp)
  obtain ⟨rfl, rfl⟩ : b = b' ∧ off = o' := by simpa using e
  have hcp := h.cap
  simp at hcp
  rw [if_neg (by omega)]
  refine ⟨b, off + 1, rfl, hlt, fun i x hi => ?_⟩
  have := hc (i + 1) x (by simpa using hi)
  rw [← Nat.add_assoc, Nat.add_right_comm] at this; exact this⟩
set_option maxRecDepth 100000 in
theorem ZfD (br : Nat) (y : Int) (l : List Int) (w : World) (hr : Rd w br (y :: l)) :
  Calls Tryz.prog 132 #[.pointer (some ⟨br, 0, none⟩)] w fun e w' => e = .returned (.int .u8 y) ∧ Rd w' br l ∧ w.grownBy w' (some br) := by
 obtain ⟨A, c, hb, hy, hbr⟩ := hr
 obtain ⟨b, off, rfl, hlt, hc⟩ := hy.at_ (by simp)
 have HBR := η (show b < br from hbr _ rfl); clear hbr
 have HB := η hb; have HY := η hy
 have c0 := hb.cell 0 (v := .slice (some ⟨b, off, none⟩) (y :: l).length c) rfl
 have z0 := hb.free 0
 have c1 := hc 0 y rfl
 rw [Nat.add_zero] at c1
 have hcp := hy.cap
 have hmx := hy.max
 have HMX := η hmx
 unfold maxLen at hmx
 simp only [List.length_cons] at c0 hcp
 clear hb hy hc
 have HRD := η (show ∀ w', (Bx w' br #[.slice (if c = 1 then some ⟨b, off, none⟩ else some ⟨b, off + 1, none⟩) l.length (c - 1)] 131) → w.grownBy w' (some br) → Rd w' br l from fun w' h1 h2 => ⟨_, _, h1, ZjV HY.out.tail HB.out h2, fun a ha => by split at ha <;> (cases ha; exact HBR.out)⟩)
 by_cases hc1 : c = 1
 ·have hln : l.length = 0 := by omega
  rw [if_pos hc1] at HRD
  have HLN := η hln
  go_enter Tryz.func132, Tryz.ntmps132
  go_wp2_with fail
  go_ret
  exact ⟨rfl, HRD.out _ (by have := HB.out.set 0 (.slice (some ⟨b, off, none⟩) l.length (c - 1)); simpa [HLN.out, hc1] using this) (JK _ _ _ _), JK _ _ _ _⟩
 ·rw [if_neg hc1] at HRD
  go_enter Tryz.func132, Tryz.ntmps132
  go_wp2_with fail
  go_ret
  exact ⟨rfl, HRD.out _ (HB.out.set 0 _) (JK _ _ _ _), JK _ _ _ _⟩
theorem ZhP (x : Int) {k : Nat} (hk : k < 8) : (le8 x).drop k = byt x k :: (le8 x).drop (k + 1) := by
 have hl : k < (le8 x).length := by rw [ZaH]; exact hk
 rw [List.drop_eq_getElem_cons hl]
 simp [le8, bytL]
theorem ZeU (k : Nat) : (256 : Nat) ^ k = 2 ^ (8 * k) := by rw [Nat.pow_mul]
theorem ZiF {x : Int} (hx : IsW x) {k : Nat} (hk : k < 8) : IntKind.u64.wrap (byt x k * 2 ^ (8 * (k : Int)).toNat) = byt x k * 256 ^ k ∧ bits .or .u64 (x % 256 ^ k) (byt x k * 256 ^ k) = x % 256 ^ (k + 1) := by
 obtain ⟨n, rfl⟩ := Int.eq_ofNat_of_zero_le hx.1
 have hn : n < 18446744073709551616 := by have := hx.2; omega
 have e0 : (8 * (k : Int)).toNat = 8 * k := by omega
 have hp : (256 : Nat) ^ k * 256 ≤ 18446744073709551616 := by
  have h1 : (256 : Nat) ^ (k + 1) ≤ 256 ^ 8 := Nat.pow_le_pow_right (by decide) (by omega)
  rw [Nat.pow_succ] at h1
  exact Nat.le_trans h1 (by decide)
 have eb : byt (n : Int) k = ((n / 256 ^ k % 256 : Nat) : Int) := by unfold byt; simp
 have em : ((n : Int) % 256 ^ k) = ((n % 256 ^ k : Nat) : Int) := by simp
 have em1 : ((n : Int) % 256 ^ (k + 1)) = ((n % 256 ^ (k + 1) : Nat) : Int) := by simp
 have ep : (2 : Int) ^ (8 * k) = ((256 ^ k : Nat) : Int) := by rw [ZeU]; simp
 have ep2 : (256 : Int) ^ k = ((256 ^ k : Nat) : Int) := by simp
 have hb : n / 256 ^ k % 256 * 256 ^ k < 18446744073709551616 := by
  have h1 : n / 256 ^ k % 256 < 256 := Nat.mod_lt _ (by decide)
  have h2 : n / 256 ^ k % 256 * 256 ^ k ≤ 255 * 256 ^ k := Nat.mul_le_mul_right _ (by omega)
  have h3 : 0 < (256 : Nat) ^ k := Nat.pow_pos (by decide)
  omega
 constructor
 ·rw [e0, eb, ep, ep2, ← Int.natCast_mul, IntKind.wrap_u64]
  omega
 ·rw [eb, em, em1, ep2, ← Int.natCast_mul]
  have hm : n % 256 ^ k < 18446744073709551616 := by
   have h3 : 0 < (256 : Nat) ^ k := Nat.pow_pos (by decide)
   have := Nat.mod_lt n h3; omega
  rw [bits_or_u64_nat _ _ hm hb]
  congr 1
  have h4 : n % 256 ^ k < 2 ^ (8 * k) := by rw [← ZeU]; exact Nat.mod_lt _ (Nat.pow_pos (by decide))
  rw [Nat.or_comm]
  have h5 := Nat.shiftLeft_add_eq_or_of_lt h4 (n / 256 ^ k % 256)
  rw [Nat.shiftLeft_eq, ← ZeU] at h5
  rw [← h5, Nat.pow_succ, Nat.mod_mul, Nat.mul_comm (256 ^ k), Nat.add_comm]
theorem ZhQ {x : Int} (h : isB x) : IntKind.u64.wrap x = x := by unfold isB at h; rw [IntKind.wrap_u64]; omega
set_option maxRecDepth 100000 in
theorem Zbs (br : Nat) (x : Int) (hx : IsW x) (l : List Int) (w : World) (hr : Rd w br (le8 x ++ l)) :
  Calls Tryz.prog 112 #[.pointer (some ⟨br, 0, none⟩)] w fun e w' => e = .returned (.int .u64 x) ∧ Rd w' br l ∧ w.grownBy w' (some br) := by
 have HR := η hr; have HX := η hx; clear hr hx
 go_enter Tryz.func112, Tryz.ntmps112
 go_wp2_with fail
 go_loopw [3, 5] (fun xr ir wr => ∃ k : Nat, k ≤ 8 ∧ ir = .int .i64 (k : Int) ∧ xr = .int .u64 (x % 256 ^ k) ∧ Rd wr br ((le8 x).drop k ++ l) ∧ w.grownBy wr (some br)) (fun _ i _ => 8 - (intOf i).toNat)
 case atStart => exact ⟨0, Nat.zero_le _, rfl, by simp [Int.emod_one], by simpa using HR.out, World.grownBy.refl _ _⟩
 case round =>
  obtain ⟨k, hk, rfl, rfl, hrd, hg⟩ := hrel
  have HRD := η hrd; have HG := η hg; clear hrd hg
  by_cases hlt : k < 8
  ·have HRD2 := η (show Rd wr br (byt x k :: ((le8 x).drop (k + 1) ++ l)) from by have := HRD.out; rw [ZhP x hlt] at this; exact this)
   obtain ⟨s1, s2⟩ := ZiF HX.out hlt
   have s3 := ZhQ (ZiE x k)
   have e2 : IntKind.i64.wrap (8 * (k : Int)) = 8 * (k : Int) := by rw [IntKind.wrap_i64]; omega
   have e3 : wrap64 (8 * (k : Int)) = 8 * (k : Int) := by rw [← IntWalk.i64_left]; exact e2
   generalize byt x k * 256 ^ k = q at *
   generalize hp : x % 256 ^ k = p at *
   generalize hp1 : x % 256 ^ (k + 1) = p1 at *
   have HP1 := η hp1; clear hp hp1
   generalize byt x k = y at *
   clear HRD
   go_wp2_with fail
   refine (ZfD br y _ _ HRD2.out).mono ?_
   rintro e w2 ⟨rfl, h2, g2⟩
   have HR2 := η h2; have HG2 := η (HG.out.trans g2); clear h2 g2
   go_wp2_with fail
   go_roundw
   case rel => exact ⟨k + 1, by omega, by go_num, by rw [HP1.out], HR2.out, HG2.out⟩
   case measure => simp [intOf]; omega
  ·obtain rfl : k = 8 := by omega
   have hpx : x % 256 ^ 8 = x := by have := HX.out; unfold IsW at this; omega
   rw [hpx]
   have HR3 := η (show Rd wr br l from by have := HRD.out; rw [List.drop_of_length_le (by rw [ZaH]; exact Nat.le_refl _)] at this; simpa using this)
   clear hpx
   go_wp2_with fail
   go_ret
   exact ⟨rfl, HR3.out, HG.out⟩
theorem Zh1 {x : Int} (h : IsI x) : IntKind.i64.wrap (lo x) = x := by unfold IsI at h; unfold lo; rw [IntKind.wrap_i64]; omega
theorem JT {w w' : World} {b : Nat} {A : Option Addr} {c : Nat} {l : List Int} {cs : Array Value} {t : TypeId} (h : By w A c l) (hb : Bx w b cs t) (hn : ∀ u ∈ cs.toList, ∀ x, u ≠ .int .u8 x) (hg : w.grownBy w' (some b)) : By w' A c l :=
 ⟨h.cap, h.max, fun h0 => by
  obtain ⟨b', off, e, hlt, hc⟩ := h.at_ h0
  have hne : b' ≠ b := fun e2 => by
   subst e2
   have hx : l[0]? = some (l[0]'h0) := List.getElem?_eq_getElem h0
   have h1 := hc 0 _ hx
   unfold Bx at hb
   simp only [World.cell?, hb] at h1
   exact hn _ (by simpa using Array.mem_of_getElem? h1) _ rfl
  refine ⟨b', off, e, Nat.lt_of_lt_of_le hlt hg.size, fun i x hi => ?_⟩
  exact (World.cell?_of_block (w := w) (w' := w') (a := ⟨b', off + i, none⟩) (hg.block b' hlt (by simpa using hne))).trans (hc i x hi)⟩
theorem Zaj {w w' : World} {r : Option Nat} {b i : Nat} {v : Value} (h : w.grownBy w' r) (hb : w.heap.size ≤ b) : w.grownBy (w'.setCell ⟨b, i, none⟩ v) r :=
 ⟨h.os, h.tape, h.output, by have := h.size; simpa [World.setCell] using this, fun k hk hne => (Below.heap_setCell _ _ _ _ (by simp; omega)).trans (h.block k hk hne)⟩
theorem JD {w w' : World} {br b : Nat} {cs : Array Value} {t : TypeId} (h : Bx w b cs t) (hne : b ≠ br) (hg : w.grownBy w' (some br)) : Bx w' b cs t := (hg.block b h.lt (by simpa using hne)).trans h
set_option maxRecDepth 100000 in
theorem Zcd (br : Nat) (x y : Int) (hx : IsI x) (hy : IsI y) (l : List Int) (w : World) (hr : Rd w br (ptB x y ++ l)) :
  Calls Tryz.prog 81 #[.pointer (some ⟨br, 0, none⟩)] w fun e w' => e = .returned (.agg #[.int .i64 x, .int .i64 y]) ∧ Rd w' br l ∧ w.grownBy w' (some br) := by
 have HR := η hr; have HX := η hx; have HY := η hy; have HLT := η hr.lt; clear hr hx hy
 go_enter Tryz.func81, Tryz.ntmps81
 go_wp2_with fail
 have HB := η (Bx.new w #[.int .i64 0, .int .i64 0] 23)
 have HR1 := η (show Rd (w.alloc (.cells #[.int .i64 0, .int .i64 0] 23)) br (le8 (lo x) ++ (le8 (lo y) ++ l)) from by have := HR.out.alloc (.cells #[.int .i64 0, .int .i64 0] 23); unfold ptB at this; rw [List.append_assoc] at this; exact this)
 have HG1 := η (World.grownBy_alloc w (.cells #[.int .i64 0, .int .i64 0] 23) (some br))
 have HNE := η (show w.heap.size ≠ br from by have := HLT.out; omega)
 generalize w.alloc (.cells #[.int .i64 0, .int .i64 0] 23) = w1 at *
 clear HR
 refine (Zbs br (lo x) (Zay _) _ _ HR1.out).mono ?_
 rintro e w2 ⟨rfl, h2, g2⟩
 have HR2 := η h2; have HB2 := η (JD HB.out HNE.out g2); have HG2 := η (HG1.out.trans g2); clear h2 g2 HR1 HB HG1
 have wi := Zh1 HX.out
 go_wp2_with fail
 clear wi
 refine (Zbs br (lo y) (Zay _) _ _ HR2.out).mono ?_
 rintro e w3 ⟨rfl, h3, g3⟩
 have HB3 := η (JD HB2.out HNE.out g3); have HR3 := η h3; have HG3 := η (HG2.out.trans g3); clear h3 g3 HR2 HB2 HG2
 have wi := Zh1 HY.out
 have c0 := HB3.out.cell 0 (v := .int .i64 0) rfl
 have c1 := HB3.out.cell 1 (v := .int .i64 0) rfl
 have z0 := HB3.out.free 0
 have z1 := HB3.out.free 1
 go_wp2_with fail
 clear wi c0 c1 z0 z1
 have HB4 := η ((HB3.out.set 0 (.int .i64 x)).set 1 (.int .i64 y))
 have HR4 := η (show Rd ((w3.setCell ⟨w.heap.size, 0, none⟩ (.int .i64 x)).setCell ⟨w.heap.size, 1, none⟩ (.int .i64 y)) br l from by
  obtain ⟨A, c, h1, h2, h3⟩ := HR3.out
  exact ⟨A, c, (h1.other _ (fun e => HNE.out e.symm)).other _ (fun e => HNE.out e.symm), JT (JT h2 HB3.out (by simp) (JK _ _ _ _)) (HB3.out.set 0 _) (by simp) (JK _ _ _ _), h3⟩)
 have HG4 := η (Zaj (i := 1) (v := .int .i64 y) (Zaj (i := 0) (v := .int .i64 x) HG3.out (Nat.le_refl w.heap.size)) (Nat.le_refl w.heap.size))
 clear HB3 HR3 HG3
 generalize (w3.setCell ⟨w.heap.size, 0, none⟩ (.int .i64 x)).setCell ⟨w.heap.size, 1, none⟩ (.int .i64 y) = w4 at *
 have q0 := HB4.out.cell 0 (v := .int .i64 x) rfl
 have q1 := HB4.out.cell 1 (v := .int .i64 y) rfl
 refine bodyPost_ret (v := .agg #[.int .i64 x, .int .i64 y]) (by simp [results, Tryz.results81, go_sem, q0, q1]) rfl ⟨rfl, HR4.out, HG4.out⟩
def ptsF (f g : Nat → Int) (k : Nat) : Nat → List Int
 | 0 => []
 | m + 1 => ptB (f k) (g k) ++ ptsF f g (k + 1) m
theorem Zh2 (f g : Nat → Int) : ∀ m k, ptsB f g (k + m) = ptsB f g k ++ ptsF f g k m
 | 0, k => by simp [ptsF]
 | m + 1, k => by
  rw [show k + (m + 1) = (k + 1) + m by omega, Zh2 f g m (k + 1), ptsB, ptsF, List.append_assoc]
theorem ZiG (f g : Nat → Int) (n : Nat) : ptsB f g n = ptsF f g 0 n := by have := Zh2 f g n 0; simpa [ptsB] using this
theorem Zh3 (f g : Nat → Int) {k n : Nat} (h : k < n) : ptsF f g k (n - k) = ptB (f k) (g k) ++ ptsF f g (k + 1) (n - (k + 1)) := by
 rw [show n - k = (n - (k + 1)) + 1 by omega, ptsF]
def qusB (f g d : Nat → Int) : Nat → List Int
 | 0 => []
 | k + 1 => qusB f g d k ++ quB (f k) (g k) (d k)
theorem Zb9 (f g d : Nat → Int) : ∀ k, (qusB f g d k).length = 24 * k
 | 0 => rfl
 | k + 1 => by rw [qusB, List.length_append, Zb9 f g d k, ZiC]; omega
def qusF (f g d : Nat → Int) (k : Nat) : Nat → List Int
 | 0 => []
 | m + 1 => quB (f k) (g k) (d k) ++ qusF f g d (k + 1) m
theorem Zh4 (f g d : Nat → Int) : ∀ m k, qusB f g d (k + m) = qusB f g d k ++ qusF f g d k m
 | 0, k => by simp [qusF]
 | m + 1, k => by
  rw [show k + (m + 1) = (k + 1) + m by omega, Zh4 f g d m (k + 1), qusB, qusF, List.append_assoc]
theorem ZiH (f g d : Nat → Int) (n : Nat) : qusB f g d n = qusF f g d 0 n := by have := Zh4 f g d n 0; simpa [qusB] using this
theorem Zh5 (f g d : Nat → Int) {k n : Nat} (h : k < n) : qusF f g d k (n - k) = quB (f k) (g k) (d k) ++ qusF f g d (k + 1) (n - (k + 1)) := by
 rw [show n - k = (n - (k + 1)) + 1 by omega, qusF]
structure RowE (cur : Array Value) (s m k : Nat) (e : Nat → Nat → Value) : Prop where
 size : cur.size = m
 at_ : ∀ i, i < k → ∀ j, j < s → cur[i * s + j]? = some (e i j)
def setRow (cur : Array Value) (o : Nat) : List Value → Array Value
 | [] => cur
 | v :: l => setRow (cur.setIfInBounds o v) (o + 1) l
theorem ZcG : ∀ (l : List Value) (cur : Array Value) (o : Nat), (setRow cur o l).size = cur.size
 | [], _, _ => rfl
 | v :: l, cur, o => by rw [setRow, ZcG l]; simp
theorem Zdc : ∀ (l : List Value) (cur : Array Value) (o : Nat), o + l.length ≤ cur.size → ∀ i, (setRow cur o l)[i]? = if o ≤ i ∧ i < o + l.length then l[i - o]? else cur[i]?
 | [], cur, o, h, i => by simp [setRow]; intro h1 h2; omega
 | v :: l, cur, o, h, i => by
  simp only [List.length_cons] at h
  rw [setRow, Zdc l _ _ (by simp; omega)]
  by_cases h1 : o + 1 ≤ i ∧ i < o + 1 + l.length
  ·rw [if_pos h1, if_pos (by simp; omega), show i - o = (i - (o + 1)) + 1 by omega]; simp
  ·rw [if_neg h1]
   by_cases h2 : i = o
   ·subst h2; rw [if_pos (by simp)]; have h3 : i < cur.size := by omega
    simp [h3]
   ·rw [if_neg (by simp; omega), Array.getElem?_setIfInBounds_ne (by omega)]
theorem RowE.snoc {cur : Array Value} {s m k : Nat} {e : Nat → Nat → Value} (h : RowE cur s m k e) (hk : k * s + s ≤ m) (l : List Value) (hl : l.length = s) (he : ∀ j, j < s → l[j]? = some (e k j)) : RowE (setRow cur (k * s) l) s m (k + 1) e :=
 ⟨(ZcG _ _ _).trans h.size, fun i hi j hj => by
  rw [Zdc _ _ _ (by rw [hl, h.size]; exact hk), hl]
  rcases (by omega : i < k ∨ i = k) with h1 | rfl
  ·have h2 : i * s + s ≤ k * s := by have := Nat.mul_le_mul_right s (show i + 1 ≤ k by omega); rw [Nat.add_mul, Nat.one_mul] at this; exact this
   rw [if_neg (by omega)]; exact h.at_ i h1 j hj
  ·rw [if_pos (by omega), show i * s + j - i * s = j by omega]; exact he j hj⟩
theorem RowE.some {cur : Array Value} {s m k : Nat} {e : Nat → Nat → Value} (h : RowE cur s m k e) {i : Nat} (hi : i < m) : ∃ v, cur[i]? = Option.some v := ⟨_, Array.getElem?_eq_getElem (by rw [h.size]; exact hi)⟩
def ptE (f g : Nat → Int) (i j : Nat) : Value := if j = 0 then .int .i64 (f i) else .int .i64 (g i)
def quE (f g d : Nat → Int) (i j : Nat) : Value := if j = 0 then .int .i64 (f i) else if j = 1 then .int .i64 (g i) else .int .u64 (d i)
structure Qus (w : World) (A : Option Addr) (n c : Nat) (f g d : Nat → Int) : Prop where
 cap : n ≤ c
 max : c ≤ maxLen
 isi : ∀ i, i < n → IsI (f i) ∧ IsI (g i) ∧ IsW (d i)
 at_ : 0 < n → ∃ b off, A = some ⟨b, off, none⟩ ∧ b < w.heap.size ∧ ∀ i, i < n → w.cell? ⟨b, off + i * 3, none⟩ = some (.int .i64 (f i)) ∧ w.cell? ⟨b, off + i * 3 + 1, none⟩ = some (.int .i64 (g i)) ∧ w.cell? ⟨b, off + i * 3 + 2, none⟩ = some (.int .u64 (d i))
theorem Qus.below {w w' : World} {B : Nat} {A : Option Addr} {n c : Nat} {f g d : Nat → Int} (h : Qus w A n c f g d) (hb : Below B w w') (hB : w.heap.size ≤ B) : Qus w' A n c f g d :=
 ⟨h.cap, h.max, h.isi, fun hn => by
  obtain ⟨b, off, e, hlt, hc⟩ := h.at_ hn
  exact ⟨b, off, e, Nat.lt_of_lt_of_le hlt hb.size, fun i hi => ⟨(hb.cell (p := ⟨b, off + i * 3, none⟩) (by show b < B; omega)).trans (hc i hi).1, (hb.cell (p := ⟨b, off + i * 3 + 1, none⟩) (by show b < B; omega)).trans (hc i hi).2.1, (hb.cell (p := ⟨b, off + i * 3 + 2, none⟩) (by show b < B; omega)).trans (hc i hi).2.2⟩⟩⟩
theorem Qus.alloc {w : World} {A : Option Addr} {n c : Nat} {f g d : Nat → Int} (h : Qus w A n c f g d) (o : Obj) : Qus (w.alloc o) A n c f g d :=
 h.below ((Below.refl w.heap.size w).alloc ν o) ν
theorem Qus.drew {w : World} {A : Option Addr} {n c : Nat} {f g d : Nat → Int} (h : Qus w A n c f g d) : Qus w.drew A n c f g d := h.below (Below.refl w.heap.size w).drew ν
theorem Zjs {w : World} {b n : Nat} {f g : Nat → Int} {cur : Array Value} {t : TypeId} (h : Bx w b cur t) (hc : RowE cur 2 (n * 2) n (ptE f g)) (hm : n ≤ maxLen) (hi : ∀ i, i < n → IsI (f i) ∧ IsI (g i)) : Pts w (some ⟨b, 0, none⟩) n n f g :=
 ⟨Nat.le_refl _, hm, hi, fun _ => ⟨b, 0, rfl, h.lt, fun i hi' => by
  rw [Nat.zero_add]; exact ⟨h.cell _ (hc.at_ i hi' 0 (by decide)), h.cell _ (hc.at_ i hi' 1 (by decide))⟩⟩⟩
theorem Zjt {w : World} {b n : Nat} {f g d : Nat → Int} {cur : Array Value} {t : TypeId} (h : Bx w b cur t) (hc : RowE cur 3 (n * 3) n (quE f g d)) (hm : n ≤ maxLen) (hi : ∀ i, i < n → IsI (f i) ∧ IsI (g i) ∧ IsW (d i)) : Qus w (some ⟨b, 0, none⟩) n n f g d :=
 ⟨Nat.le_refl _, hm, hi, fun _ => ⟨b, 0, rfl, h.lt, fun i hi' => by
  rw [Nat.zero_add]; exact ⟨h.cell _ (hc.at_ i hi' 0 (by decide)), h.cell _ (hc.at_ i hi' 1 (by decide)), h.cell _ (hc.at_ i hi' 2 (by decide))⟩⟩⟩
def NoB (cs : Array Value) : Prop := ∀ u ∈ cs.toList, ∀ x, u ≠ .int .u8 x
theorem ZbB {cs : Array Value} (h : NoB cs) {v : Value} (hv : ∀ x, v ≠ .int .u8 x) (i : Nat) : NoB (cs.setIfInBounds i v) := by
 intro u hu x
 rw [Array.toList_setIfInBounds] at hu
 rcases List.mem_or_eq_of_mem_set hu with h1 | h1
 ·exact h u h1 x
 ·rw [h1]; exact hv x
theorem ZbN : ∀ (l : List Value) {cs : Array Value} (o : Nat), NoB cs → (∀ v ∈ l, ∀ x, v ≠ .int .u8 x) → NoB (setRow cs o l)
 | [], _, _, h, _ => h
 | v :: l, cs, o, h, hl => ZbN l _ (ZbB h (hl v (by simp)) o) (fun u hu => hl u (by simp [hu]))
theorem ZeV {z : Array Value} (hz : NoB z) (h0 : 0 < z.size) (n : Nat) : NoB (madeCells z n) := by
 intro u hu x
 simp only [madeCells, Array.toList_map, List.mem_map] at hu
 obtain ⟨i, _, rfl⟩ := hu
 rw [getElem!_pos z _ (Nat.mod_lt _ h0)]
 exact hz _ (by simp) x
theorem Zg6 {w : World} {base e s n g : Nat} {z : Array Value} (h : w.ownsRow base e s (.slice (some ⟨g, 0, none⟩) n n) n (madeCells z (n * s)).toList) (hn : 0 < n) : Bx w g (madeCells z (n * s)) e := by
 rcases h.2 with ⟨h, _⟩ | ⟨g', cap, cur, e1, _, h3, _, _, h6, h7⟩
 ·cases h
 ·cases e1
  have : cur = madeCells z (n * s) := by
   rw [List.take_of_length_le (by simp [h6])] at h7
   exact Array.toList_inj.1 h7
  rw [← this]; exact h3
def szf (v : Int) : Int := if v = 0 then 3 else if v < 3 ∨ 64 < v then 0 else v
set_option maxRecDepth 100000 in
theorem ZbC (d : Bool) (A : Option Addr) (n c : Nat) (w : World) :
  Calls Tryz.prog 111 #[.agg #[.bool d, .int .i64 0, .slice A n c]] w fun e w' => e = .returned (.iface 195 (.agg #[.bool d, .int .i64 0, .slice A n c])) ∧ Below w.heap.size w w' := by
 go_enter Tryz.func111, Tryz.ntmps111
 go_wp2_with fail
 go_ret
 exact ⟨rfl, J8 J0⟩
set_option maxRecDepth 100000 in
theorem ZbD (d : Bool) (v : Int) (hv : v ≠ 0) (A : Option Addr) (n c : Nat) (w : World) :
  Calls Tryz.prog 111 #[.agg #[.bool d, .int .i64 v, .slice A n c]] w fun e w' => e = .returned (.iface 196 (.agg #[.bool d, .int .i64 v, .slice A n c])) ∧ Below w.heap.size w w' := by
 go_enter Tryz.func111, Tryz.ntmps111
 go_wp2_with fail
 go_ret
 exact ⟨rfl, J8 J0⟩
set_option maxRecDepth 100000 in
theorem Zgw (d : Bool) (v : Int) (A : Option Addr) (n c : Nat) (w : World) :
  Calls Tryz.prog 197 #[.agg #[.bool d, .int .i64 v, .slice A n c]] w fun e w' => e = .returned (.int .i64 3) ∧ Below w.heap.size w w' := by
 go_enter Tryz.func197, Tryz.ntmps197
 go_wp2_with fail
 go_ret
 first | exact ⟨rfl, J8 J0⟩ | exact ⟨rfl, J0⟩
set_option maxRecDepth 100000 in
theorem ZfE (d : Bool) (v : Int) (hv : v ≠ 0) (A : Option Addr) (n c : Nat) (w : World) :
  Calls Tryz.prog 204 #[.agg #[.bool d, .int .i64 v, .slice A n c]] w fun e w' => e = .returned (.int .i64 (szf v)) ∧ Below w.heap.size w w' := by
 by_cases h1 : v < 3
 ·rw [show szf v = 0 from by unfold szf; rw [if_neg hv, if_pos (.inl h1)]]
  go_enter Tryz.func204, Tryz.ntmps204
  go_wp2_with fail
  go_ret
  exact ⟨rfl, J8 J0⟩
 ·by_cases h2 : v > 64
  ·rw [show szf v = 0 from by unfold szf; rw [if_neg hv, if_pos (.inr h2)]]
   go_enter Tryz.func204, Tryz.ntmps204
   go_wp2_with fail
   go_ret
   exact ⟨rfl, J8 J0⟩
  ·rw [show szf v = v from by unfold szf; rw [if_neg hv, if_neg (by omega)]]
   go_enter Tryz.func204, Tryz.ntmps204
   go_wp2_with fail
   go_ret
   exact ⟨rfl, J8 J0⟩
theorem Zel (x : Value) (w : World) : (method 366 195 x "geofence/fence.size").run Tryz.prog w = .ok (197, x) w := by kernel_rfl
theorem ZdC (x : Value) (w : World) : (method 366 195 x "geofence/fence.valid").run Tryz.prog w = .ok (198, x) w := by kernel_rfl
theorem Zdd (x : Value) (w : World) : (method 366 195 x "geofence/fence.locate").run Tryz.prog w = .ok (196, x) w := by kernel_rfl
theorem ZdD (x : Value) (w : World) : (method 366 196 x "geofence/fence.size").run Tryz.prog w = .ok (204, x) w := by kernel_rfl
theorem Zde (x : Value) (w : World) : (method 366 196 x "geofence/fence.valid").run Tryz.prog w = .ok (205, x) w := by kernel_rfl
theorem ZcR (x : Value) (w : World) : (method 366 196 x "geofence/fence.locate").run Tryz.prog w = .ok (203, x) w := by kernel_rfl
set_option maxRecDepth 100000 in
theorem JW (d : Bool) (v : Int) (A : Option Addr) (n c : Nat) (w : World) :
  Calls Tryz.prog 80 #[.agg #[.bool d, .int .i64 v, .slice A n c]] w fun e w' => e = .returned (.int .i64 (szf v)) ∧ Below w.heap.size w w' := by
 have hm0 := Zel
 have hm1 := ZdD
 by_cases hv : v = 0
 ·subst hv
  rw [show szf 0 = 3 from rfl]
  go_enter Tryz.func80, Tryz.ntmps80
  go_wp2_with fail
  have HB := η (show Below w.heap.size w (w.alloc (.cells #[.bool d, .int .i64 0, .slice A n c] 48)) from J8 J0)
  refine (ZbC d A n c _).mono ?_
  rintro e w2 ⟨rfl, B⟩
  have HB2 := η (HB.out.trans (B.mono HB.out.size)); clear B HB
  go_wp2_with fail
  refine (Zgw d 0 A n c _).mono ?_
  rintro e w3 ⟨rfl, B⟩
  have HB3 := η (HB2.out.trans (B.mono HB2.out.size)); clear B HB2
  go_wp2_with fail
  go_ret
  exact ⟨rfl, HB3.out⟩
 ·have HV := η hv; clear hv
  go_enter Tryz.func80, Tryz.ntmps80
  go_wp2_with fail
  have HB := η (show Below w.heap.size w (w.alloc (.cells #[.bool d, .int .i64 v, .slice A n c] 48)) from J8 J0)
  refine (ZbD d v HV.out A n c _).mono ?_
  rintro e w2 ⟨rfl, B⟩
  have HB2 := η (HB.out.trans (B.mono HB.out.size)); clear B HB
  go_wp2_with fail
  refine (ZfE d v HV.out A n c _).mono ?_
  rintro e w3 ⟨rfl, B⟩
  have HB3 := η (HB2.out.trans (B.mono HB2.out.size)); clear B HB2
  go_wp2_with fail
  go_ret
  exact ⟨rfl, HB3.out⟩
structure Rgs (w : World) (A : Option Addr) (n c : Nat) (d : Nat → Bool) (v : Nat → Int) (Q : Nat → Option Addr × Nat × Nat) : Prop where
 cap : n ≤ c
 max : c ≤ maxLen
 isi : ∀ i, i < n → IsI (v i)
 at_ : 0 < n → ∃ b off, A = some ⟨b, off, none⟩ ∧ b < w.heap.size ∧ ∀ i, i < n → w.cell? ⟨b, off + i * 3, none⟩ = some (.bool (d i)) ∧ w.cell? ⟨b, off + i * 3 + 1, none⟩ = some (.int .i64 (v i)) ∧ w.cell? ⟨b, off + i * 3 + 2, none⟩ = some (.slice (Q i).1 (Q i).2.1 (Q i).2.2)
theorem Rgs.below {w w' : World} {B : Nat} {A : Option Addr} {n c : Nat} {d : Nat → Bool} {v : Nat → Int} {Q : Nat → Option Addr × Nat × Nat} (h : Rgs w A n c d v Q) (hb : Below B w w') (hB : w.heap.size ≤ B) : Rgs w' A n c d v Q :=
 ⟨h.cap, h.max, h.isi, fun hn => by
  obtain ⟨b, off, e, hlt, hc⟩ := h.at_ hn
  exact ⟨b, off, e, Nat.lt_of_lt_of_le hlt hb.size, fun i hi => ⟨(hb.cell (p := ⟨b, off + i * 3, none⟩) (by show b < B; omega)).trans (hc i hi).1, (hb.cell (p := ⟨b, off + i * 3 + 1, none⟩) (by show b < B; omega)).trans (hc i hi).2.1, (hb.cell (p := ⟨b, off + i * 3 + 2, none⟩) (by show b < B; omega)).trans (hc i hi).2.2⟩⟩⟩
theorem Rgs.alloc {w : World} {A : Option Addr} {n c : Nat} {d : Nat → Bool} {v : Nat → Int} {Q : Nat → Option Addr × Nat × Nat} (h : Rgs w A n c d v Q) (o : Obj) : Rgs (w.alloc o) A n c d v Q :=
 h.below ((Below.refl w.heap.size w).alloc ν o) ν
theorem Rgs.drew {w : World} {A : Option Addr} {n c : Nat} {d : Nat → Bool} {v : Nat → Int} {Q : Nat → Option Addr × Nat × Nat} (h : Rgs w A n c d v Q) : Rgs w.drew A n c d v Q := h.below (Below.refl w.heap.size w).drew ν
structure RgP (w : World) (n : Nat) (Q : Nat → Option Addr × Nat × Nat) (F G : Nat → Nat → Int) : Prop where
 pts : ∀ i, i < n → Pts w (Q i).1 (Q i).2.1 (Q i).2.2 (F i) (G i)
theorem RgP.below {w w' : World} {B n : Nat} {Q : Nat → Option Addr × Nat × Nat} {F G : Nat → Nat → Int} (h : RgP w n Q F G) (hb : Below B w w') (hB : w.heap.size ≤ B) : RgP w' n Q F G := ⟨fun i hi => (h.pts i hi).below hb hB⟩
theorem RgP.alloc {w : World} {n : Nat} {Q : Nat → Option Addr × Nat × Nat} {F G : Nat → Nat → Int} (h : RgP w n Q F G) (o : Obj) : RgP (w.alloc o) n Q F G := ⟨fun i hi => (h.pts i hi).alloc o⟩
theorem RgP.drew {w : World} {n : Nat} {Q : Nat → Option Addr × Nat × Nat} {F G : Nat → Nat → Int} (h : RgP w n Q F G) : RgP w.drew n Q F G := ⟨fun i hi => (h.pts i hi).drew⟩
structure OkK (n : Nat) (v : Nat → Int) : Prop where
 pos : 1 ≤ n
 le : n ≤ 64
 kind : ∀ i, i < n → szf (v i) ≠ 0
structure OkR (n : Nat) (v : Nat → Int) (Q : Nat → Option Addr × Nat × Nat) : Prop extends OkK n v where
 num : ∀ i, i < n → (((Q i).2.1 : Nat) : Int) = szf (v i)
theorem Zaw (v : Int) : 0 ≤ szf v ∧ szf v ≤ 64 := by
 unfold szf
 split
 ·omega
 ·split <;> omega
theorem OkK.range {n : Nat} {v : Nat → Int} (h : OkK n v) {i : Nat} (hi : i < n) : 0 ≤ v i ∧ v i ≤ 64 ∧ 3 ≤ szf (v i) := by
 have := h.kind i hi
 unfold szf at *
 split at this
 ·simp_all
 ·split at this
  ·exact absurd rfl this
  ·rename_i h1 h2; simp [h1, h2]; omega
set_option maxRecDepth 100000 in
theorem Zb0 (v : Int) (w : World) :
  Calls Tryz.prog 37 #[.int .i64 v] w fun e w' => e = .returned (.int .i64 (szf v)) ∧ w = w' := by
 by_cases h0 : v = 0
 ·subst h0
  go_enter Tryz.func37, Tryz.ntmps37
  go_wp2_with fail
  go_ret
  exact ⟨rfl, rfl⟩
 ·by_cases h1 : v ≥ 3
  ·by_cases h2 : v ≤ 64
   ·rw [show szf v = v from by unfold szf; rw [if_neg h0, if_neg (by omega)]]
    go_enter Tryz.func37, Tryz.ntmps37
    go_wp2_with fail
    go_ret
    exact ⟨rfl, rfl⟩
   ·rw [show szf v = 0 from by unfold szf; rw [if_neg h0, if_pos (by omega)]]
    go_enter Tryz.func37, Tryz.ntmps37
    go_wp2_with fail
    go_ret
    exact ⟨rfl, rfl⟩
  ·rw [show szf v = 0 from by unfold szf; rw [if_neg h0, if_pos (by omega)]]
   go_enter Tryz.func37, Tryz.ntmps37
   go_wp2_with fail
   go_ret
   exact ⟨rfl, rfl⟩
set_option maxRecDepth 100000 in
theorem Zak (A : Option Addr) (n c : Nat) (d : Nat → Bool) (v : Nat → Int) (Q : Nat → Option Addr × Nat × Nat) (w : World) (hr : Rgs w A n c d v Q) :
  Calls Tryz.prog 15 #[.slice A n c] w fun e w' => (∃ x : Int, e = .returned (.int .i64 x) ∧ (x = 0 ↔ OkR n v Q)) ∧ Below w.heap.size w w' := by
 have HR := η hr
 have hcp := hr.cap
 have hmx := hr.max
 clear hr
 unfold maxLen at hmx
 by_cases h1 : (n : Int) < 1
 ·have HN := η (show ((6 : Int) = 0 ↔ OkR n v Q) from ⟨fun h => by omega, fun h => by have := h.pos; omega⟩)
  go_enter Tryz.func15, Tryz.ntmps15
  go_wp2_with fail
  go_ret
  exact ⟨⟨6, rfl, HN.out⟩, J0⟩
 by_cases h2 : (n : Int) > 64
 ·have HN := η (show ((6 : Int) = 0 ↔ OkR n v Q) from ⟨fun h => by omega, fun h => by have := h.le; omega⟩)
  go_enter Tryz.func15, Tryz.ntmps15
  go_wp2_with fail
  go_ret
  exact ⟨⟨6, rfl, HN.out⟩, J0⟩
 obtain ⟨b, off, rfl, hbl, hc⟩ := HR.out.at_ (by omega)
 have HC := η hc; have HBL := η hbl; clear hc hbl
 go_enter Tryz.func15, Tryz.ntmps15
 go_wp2_with fail
 go_loopw [3] (fun ir wr => ∃ k : Nat, k ≤ n ∧ ir = .int .i64 (k : Int) ∧ (∀ i, i < k → szf (v i) ≠ 0 ∧ (((Q i).2.1 : Nat) : Int) = szf (v i)) ∧ w = wr) (fun i _ => n - (intOf i).toNat)
 case atStart => exact ⟨0, by omega, rfl, fun i hi => absurd hi (by omega), rfl⟩
 case round =>
  obtain ⟨k, hk, rfl, hs, rfl⟩ := hrel
  have HS := η hs; clear hs
  by_cases hlt : k < n
  ·have p1 := (HC.out k hlt).2.1
   have p2 := (HC.out k hlt).2.2
   have hms := η (show n - (intOf (.int .i64 ((k : Int) + 1))).toNat < n - (intOf (.int .i64 (k : Int))).toNat from by simp [intOf]; omega)
   go_wp2_with fail
   refine (Zb0 (v k) _).mono ?_
   rintro e w2 ⟨rfl, rfl⟩
   by_cases hz : szf (v k) = 0
   ·have HN := η (show ((7 : Int) = 0 ↔ OkR n v Q) from ⟨fun h => by omega, fun h => absurd hz (h.kind k hlt)⟩)
    go_wp2_with fail
    go_ret
    exact ⟨⟨7, rfl, HN.out⟩, J0⟩
   ·by_cases hq : (((Q k).2.1 : Nat) : Int) = szf (v k)
    ·have HZ := η hz; have HQ := η hq
     go_wp2_with fail
     go_roundw
     case rel => exact ⟨k + 1, hlt, by go_num, fun i hi => by
      by_cases hik : i < k
      ·exact HS.out i hik
      ·obtain rfl : i = k := by omega
       exact ⟨HZ.out, HQ.out⟩, trivial⟩
     case measure => exact hms.out
    ·have HN := η (show ((8 : Int) = 0 ↔ OkR n v Q) from ⟨fun h => by omega, fun h => absurd (h.num k hlt) hq⟩)
     go_wp2_with fail
     go_ret
     exact ⟨⟨8, rfl, HN.out⟩, J0⟩
  ·obtain rfl : k = n := by omega
   have HN := η (show OkR k v Q from ⟨⟨by omega, by omega, fun i hi => (HS.out i hi).1⟩, fun i hi => (HS.out i hi).2⟩)
   go_wp2_with fail
   go_ret
   exact ⟨⟨0, rfl, fun _ => HN.out, fun _ => rfl⟩, J0⟩
set_option maxRecDepth 100000 in
theorem Zbt (A : Option Addr) (n c : Nat) (d : Nat → Bool) (v : Nat → Int) (Q : Nat → Option Addr × Nat × Nat) (w : World) (hr : Rgs w A n c d v Q) (ho : OkR n v Q) :
  Calls Tryz.prog 133 #[.slice A n c] w fun e w' => e = .returned (.int .i64 0) ∧ Below w.heap.size w w' := by
 have HR := η hr
 have HO := η ho
 have hcp := hr.cap
 have hmx := hr.max
 have h1 := ho.pos
 have h2 := ho.le
 clear hr ho
 unfold maxLen at hmx
 obtain ⟨b, off, rfl, hbl, hc⟩ := HR.out.at_ (by omega)
 have HC := η hc; have HBL := η hbl; clear hc hbl
 go_enter Tryz.func133, Tryz.ntmps133
 go_wp2_with fail
 go_loopw [15] (fun ir wr => ∃ k : Nat, k ≤ n ∧ ir = .int .i64 (k : Int) ∧ Below w.heap.size w wr) (fun i _ => n - (intOf i).toNat)
 case atStart => exact ⟨0, by omega, rfl, J0⟩
 case round =>
  obtain ⟨k, hk, rfl, hb⟩ := hrel
  have HB := η hb; clear hb
  by_cases hlt : k < n
  ·have p0 : wr.cell? ⟨b, off + k * 3, none⟩ = some (.bool (d k)) := (HB.out.cell (p := ⟨b, off + k * 3, none⟩) HBL.out).trans (HC.out k hlt).1
   have p1 : wr.cell? ⟨b, off + k * 3 + 1, none⟩ = some (.int .i64 (v k)) := (HB.out.cell (p := ⟨b, off + k * 3 + 1, none⟩) HBL.out).trans (HC.out k hlt).2.1
   have p2 : wr.cell? ⟨b, off + k * 3 + 2, none⟩ = some (.slice (Q k).1 (Q k).2.1 (Q k).2.2) := (HB.out.cell (p := ⟨b, off + k * 3 + 2, none⟩) HBL.out).trans (HC.out k hlt).2.2
   have hms := η (show n - (intOf (.int .i64 ((k : Int) + 1))).toNat < n - (intOf (.int .i64 (k : Int))).toNat from by simp [intOf]; omega)
   go_wp2_with fail
   clear p0 p1 p2
   have HX := η (Bx.new wr #[.bool (d k), .int .i64 (v k), .slice (Q k).1 (Q k).2.1 (Q k).2.2] 48)
   have HB1 := η (HB.out.trans ((show Below wr.heap.size wr (wr.alloc (.cells #[.bool (d k), .int .i64 (v k), .slice (Q k).1 (Q k).2.1 (Q k).2.2] 48)) from J8 J0).mono HB.out.size)); clear HB
   refine (JW (d k) (v k) _ _ _ _).mono ?_
   rintro e w2 ⟨rfl, B⟩
   have HX2 := η (HX.out.below B ν)
   have HB2 := η (HB1.out.trans (B.mono HB1.out.size)); clear B HB1 HX
   have hz := HO.out.kind k hlt
   have hq := (HO.out.num k hlt).symm
   rw [hq] at hz ⊢
   clear hq
   have v2 := HX2.out.cell 2 (v := .slice (Q k).1 (Q k).2.1 (Q k).2.2) rfl
   go_wp2_with fail
   go_roundw
   case rel => exact ⟨k + 1, hlt, by go_num, HB2.out⟩
   case measure => exact hms.out
  ·obtain rfl : k = n := by omega
   go_wp2_with fail
   go_ret
   exact ⟨rfl, HB.out⟩
theorem JH {w w' : World} (h : Below w.heap.size w w') {n : Nat} : Below w.heap.size w (w'.drewN n) := ⟨h.os, h.tape, h.output, h.size, h.block⟩
set_option maxRecDepth 100000 in
theorem Za7 (A : Option Addr) (c : Nat) (op : Int) (ho : op = 1 ∨ op = 2) (l : List Int) (w : World) (hb : By w A c (op :: l)) :
  Calls Tryz.prog 78 #[.slice A (l.length + 1) c] w fun e w' => e = .returned (.tuple #[.agg #[.int .i64 op, .int .i64 0, .slice none 0 0, .int .i64 0], .int .i64 1, .int .i64 0]) ∧ Below w.heap.size w w' := by
 obtain ⟨b, off, rfl, hlt, hc⟩ := hb.at_ (by simp)
 have c1 := hc 0 op rfl
 rw [Nat.add_zero] at c1
 have hmx := hb.cap; have hm2 := hb.max
 simp only [List.length_cons] at hmx
 unfold maxLen at hm2
 clear hb hc
 generalize l.length = n at *
 obtain ⟨o, h⟩ : ∃ o, o = op := ⟨_, rfl⟩
 rw [← h]
 have HO := η h
 rcases ho with e | e <;> (rw [e] at c1 h; clear HO; have HO := η h; clear h e)
 all_goals
  go_enter Tryz.func78, Tryz.ntmps78
  go_wp2_with fail
  refine wp_scope_straight ?_
  go_wp2_with fail
  rw [Exit.noGoto_ret]
  refine bodyPost_ret (v := .tuple #[.agg #[.int .i64 o, .int .i64 0, .slice none 0 0, .int .i64 0], .int .i64 1, .int .i64 0]) (by simp [results, Tryz.results78, go_sem, HO.out]) rfl ⟨rfl, ?_⟩
  repeat (first | exact J0 | (refine J9 ?_ ?_; (focus (first | (simp; done) | omega | (simp <;> omega)))) | refine J8 ?_)
set_option maxRecDepth 100000 in
theorem Zh6 (F : Value) (n c : Nat) (w : World) :
  Calls Tryz.prog 131 #[.slice none 0 0, F] w fun e w' => e = .returned (.int .i64 (-1)) ∧ Below w.heap.size w w' := by
 go_enter Tryz.func131, Tryz.ntmps131
 go_wp2_with fail
 refine wp_loop_rounds 1 ?_
 rw [rounds_succ]
 go_wp2_with fail
 go_ret
 exact ⟨rfl, Below.refl _ _⟩
set_option maxRecDepth 100000 in
theorem ZeW (F : Value) (w : World) :
  Calls Tryz.prog 109 #[.slice none 0 0, F] w fun e w' => e = .returned (.bool false) ∧ Below w.heap.size w w' := by
 go_enter Tryz.func109, Tryz.ntmps109
 go_wp2_with fail
 refine (Zh6 F 0 0 _).mono ?_
 rintro e w' ⟨rfl, B⟩
 have HB := η B; clear B
 go_wp2_with fail
 go_ret
 exact ⟨rfl, HB.out⟩
set_option maxRecDepth 100000 in
theorem Za8 (op : Int) (ho : op = 1 ∨ op = 2) (w : World) :
  Calls Tryz.prog 123 #[.agg #[.int .i64 op, .int .i64 0, .slice none 0 0, .int .i64 0]] w fun e w' => e = .returned (.int .i64 0) ∧ Below w.heap.size w w' := by
 obtain ⟨o, rfl⟩ : ∃ o, o = op := ⟨_, rfl⟩
 rcases ho with h | h
 all_goals
  subst h
  go_enter Tryz.func123, Tryz.ntmps123
  go_wp2_with fail
  go_quiet (fail)
  go_wp2_with fail
  refine (ZeW _ _).mono ?_
  rintro e w' ⟨rfl, B⟩
  have HB := η (J6 (JH (J8 J0)) B); clear B
  go_wp2_with fail
  go_ret
  exact ⟨rfl, HB.out⟩
structure NoK (K : FuncId) (n : Nat) (d : Nat → Bool) (v : Nat → Int) (Q : Nat → Option Addr × Nat × Nat) : Prop where
 enter : ∀ (args : Array Value) (w : World), (callFunc K args).run Tryz.prog w = .ok (.enter K args) w
 no : ∀ k, k < n → ∀ w : World, Calls Tryz.prog K #[.agg #[.bool (d k), .int .i64 (v k), .slice (Q k).1 (Q k).2.1 (Q k).2.2]] w fun e w' => e = .returned (.bool false) ∧ Below w.heap.size w w'
set_option maxRecDepth 100000 in
theorem ZhR (K : FuncId) (A : Option Addr) (n c : Nat) (d : Nat → Bool) (v : Nat → Int) (Q : Nat → Option Addr × Nat × Nat) (hn : 0 < n) (hK : NoK K n d v Q) (w : World) (hr : Rgs w A n c d v Q) :
  Calls Tryz.prog 131 #[.slice A n c, .func (.func K) #[] #[]] w fun e w' => e = .returned (.int .i64 (-1)) ∧ Below w.heap.size w w' := by
 have HR := η hr
 have HK := η hK.no
 have hen := hK.enter
 have hcp := hr.cap
 have hmx := hr.max
 clear hr hK
 unfold maxLen at hmx
 obtain ⟨b, off, rfl, hbl, hc⟩ := HR.out.at_ hn
 have HC := η hc; have HBL := η hbl; clear hc hbl
 go_enter Tryz.func131, Tryz.ntmps131
 go_wp2_with fail
 go_loopw [8] (fun ir wr => ∃ k : Nat, k ≤ n ∧ ir = .int .i64 (k : Int) ∧ Below w.heap.size w wr) (fun i _ => n - (intOf i).toNat)
 case atStart => exact ⟨0, by omega, rfl, J0⟩
 case round =>
  obtain ⟨k, hk, rfl, hb⟩ := hrel
  have HB := η hb; clear hb
  by_cases hlt : k < n
  ·have p0 : wr.cell? ⟨b, off + k * 3, none⟩ = some (.bool (d k)) := (HB.out.cell (p := ⟨b, off + k * 3, none⟩) HBL.out).trans (HC.out k hlt).1
   have p1 : wr.cell? ⟨b, off + k * 3 + 1, none⟩ = some (.int .i64 (v k)) := (HB.out.cell (p := ⟨b, off + k * 3 + 1, none⟩) HBL.out).trans (HC.out k hlt).2.1
   have p2 : wr.cell? ⟨b, off + k * 3 + 2, none⟩ = some (.slice (Q k).1 (Q k).2.1 (Q k).2.2) := (HB.out.cell (p := ⟨b, off + k * 3 + 2, none⟩) HBL.out).trans (HC.out k hlt).2.2
   have hms := η (show n - (intOf (.int .i64 ((k : Int) + 1))).toNat < n - (intOf (.int .i64 (k : Int))).toNat from by simp [intOf]; omega)
   go_wp2_with fail
   clear p0 p1 p2
   refine (HK.out k hlt _).mono ?_
   rintro e w2 ⟨rfl, B⟩
   have HB2 := η (HB.out.trans (B.mono HB.out.size)); clear B HB
   go_wp2_with fail
   go_roundw
   case rel => exact ⟨k + 1, hlt, by go_num, HB2.out⟩
   case measure => exact hms.out
  ·obtain rfl : k = n := by omega
   go_wp2_with fail
   go_ret
   exact ⟨rfl, HB.out⟩
set_option maxRecDepth 100000 in
theorem Za1 (K : FuncId) (A : Option Addr) (n c : Nat) (d : Nat → Bool) (v : Nat → Int) (Q : Nat → Option Addr × Nat × Nat) (hn : 0 < n) (hK : NoK K n d v Q) (w : World) (hr : Rgs w A n c d v Q) :
  Calls Tryz.prog 109 #[.slice A n c, .func (.func K) #[] #[]] w fun e w' => e = .returned (.bool false) ∧ Below w.heap.size w w' := by
 have HR := η hr
 have HK := η hK
 clear hr hK
 go_enter Tryz.func109, Tryz.ntmps109
 go_wp2_with fail
 refine (ZhR K A n c d v Q hn HK.out _ HR.out).mono ?_
 rintro e w' ⟨rfl, B⟩
 have HB := η B; clear B
 go_wp2_with fail
 go_ret
 exact ⟨rfl, HB.out⟩
set_option maxRecDepth 100000 in
theorem Zju (d : Bool) (v : Int) (A : Option Addr) (n c : Nat) (hv : szf v ≠ 0) (w : World) :
  Calls Tryz.prog 149 #[.agg #[.bool d, .int .i64 v, .slice A n c]] w fun e w' => e = .returned (.bool false) ∧ Below w.heap.size w w' := by
 have hz : (szf v == 0) = false := by simpa using hv
 clear hv
 go_enter Tryz.func149, Tryz.ntmps149
 go_wp2_with fail
 have HB := η (show Below w.heap.size w (w.alloc (.cells #[.bool d, .int .i64 v, .slice A n c] 48)) from J8 J0)
 refine (JW d v A n c _).mono ?_
 rintro e w2 ⟨rfl, B⟩
 have HB2 := η (HB.out.trans (B.mono HB.out.size)); clear B HB
 go_wp2_with fail
 go_ret
 exact ⟨rfl, HB2.out⟩
set_option maxRecDepth 100000 in
theorem Zjv (d : Bool) (v : Int) (A : Option Addr) (n c : Nat) (hv : szf v ≠ 0) (w : World) :
  Calls Tryz.prog 110 #[.agg #[.bool d, .int .i64 v, .slice A n c]] w fun e w' => e = .returned (.bool false) ∧ Below w.heap.size w w' := by
 have hz : (szf v == 0) = false := by simpa using hv
 clear hv
 go_enter Tryz.func110, Tryz.ntmps110
 go_wp2_with fail
 have HB := η (show Below w.heap.size w (w.alloc (.cells #[.bool d, .int .i64 v, .slice A n c] 48)) from J8 J0)
 refine (JW d v A n c _).mono ?_
 rintro e w2 ⟨rfl, B⟩
 have HB2 := η (HB.out.trans (B.mono HB.out.size)); clear B HB
 go_wp2_with fail
 go_ret
 exact ⟨rfl, HB2.out⟩
set_option maxRecDepth 100000 in
theorem Zjw (d : Bool) (v : Int) (A : Option Addr) (c : Nat) (w : World) :
  Calls Tryz.prog 150 #[.agg #[.bool d, .int .i64 v, .slice A 0 c]] w fun e w' => e = .returned (.bool false) ∧ Below w.heap.size w w' := by
 go_enter Tryz.func150, Tryz.ntmps150
 go_wp2_with fail
 go_ret
 exact ⟨rfl, J8 J0⟩
theorem noK1 {n : Nat} {d : Nat → Bool} {v : Nat → Int} {Q : Nat → Option Addr × Nat × Nat} (ho : OkK n v) : NoK 149 n d v Q :=
 ⟨fun args w => by kernel_rfl, fun k hk w => Zju _ _ _ _ _ (ho.kind k hk) w⟩
theorem noKP {n : Nat} {d : Nat → Bool} {v : Nat → Int} {Q : Nat → Option Addr × Nat × Nat} (ho : OkK n v) : NoK 110 n d v Q :=
 ⟨fun args w => by kernel_rfl, fun k hk w => Zjv _ _ _ _ _ (ho.kind k hk) w⟩
theorem noK2 {n : Nat} {d : Nat → Bool} {v : Nat → Int} {Q : Nat → Option Addr × Nat × Nat} (hq : ∀ k, k < n → (Q k).2.1 = 0) : NoK 150 n d v Q :=
 ⟨fun args w => by kernel_rfl, fun k hk w => by rw [hq k hk]; exact Zjw _ _ _ _ w⟩
def OpP (op p : Int) : Prop := (op = 4 ∧ p = 0) ∨ (op = 5 ∧ 1 ≤ p ∧ p ≤ 4096)
set_option maxRecDepth 100000 in
theorem Zan (op p : Int) (hop : OpP op p) (A : Option Addr) (n c : Nat) (d : Nat → Bool) (v : Nat → Int) (Q : Nat → Option Addr × Nat × Nat) (ho : OkK n v) (hq : ∀ k, k < n → (Q k).2.1 = 0) (w : World) (hr : Rgs w A n c d v Q) :
  Calls Tryz.prog 123 #[.agg #[.int .i64 op, .int .i64 0, .slice A n c, .int .i64 p]] w fun e w' => e = .returned (.int .i64 0) ∧ Below w.heap.size w w' := by
 have HR := η hr
 have HK := η ho
 have HQ := η hq
 have h1 := ho.pos
 have h2 := ho.le
 clear hr ho hq
 rcases hop with ⟨h, h'⟩ | ⟨h, h3, h4⟩
 ·subst h; subst h'
  go_enter Tryz.func123, Tryz.ntmps123
  go_wp2_with fail
  go_quiet (fail)
  go_wp2_with fail
  have HB := η (show Below w.heap.size w ((w.alloc (.cells #[.int .i64 4, .int .i64 0, .slice A n c, .int .i64 0] 28)).drewN nq) from JH (J8 J0))
  have FX := η (show Bx ((w.alloc (.cells #[.int .i64 4, .int .i64 0, .slice A n c, .int .i64 0] 28)).drewN nq) w.heap.size #[.int .i64 4, .int .i64 0, .slice A n c, .int .i64 0] 28 from Bx.new w _ _)
  generalize ((w.alloc (.cells #[.int .i64 4, .int .i64 0, .slice A n c, .int .i64 0] 28)).drewN nq) = w1 at *
  refine (Za1 149 A n c d v Q (by omega) (noK1 HK.out) _ (HR.out.below HB.out ν)).mono ?_
  rintro e w2 ⟨rfl, B⟩
  have FX2 := η (FX.out.below B ν)
  have HB2 := η (HB.out.trans (B.mono HB.out.size)); clear B HB FX
  have c0 := FX2.out.cell 0 (v := .int .i64 4) rfl
  have c1 := FX2.out.cell 1 (v := .int .i64 0) rfl
  have c2 := FX2.out.cell 2 (v := .slice A n c) rfl
  have c3 := FX2.out.cell 3 (v := .int .i64 0) rfl
  go_wp2_with fail
  clear c0 c1 c2 c3
  refine (Za1 150 A n c d v Q (by omega) (noK2 HQ.out) _ (HR.out.below HB2.out ν)).mono ?_
  rintro e w3 ⟨rfl, B⟩
  have HB3 := η (HB2.out.trans (B.mono HB2.out.size)); clear B HB2
  go_wp2_with fail
  go_ret
  exact ⟨rfl, HB3.out⟩
 ·subst h
  go_enter Tryz.func123, Tryz.ntmps123
  go_wp2_with fail
  go_quiet (fail)
  go_wp2_with fail
  have HB := η (show Below w.heap.size w ((w.alloc (.cells #[.int .i64 5, .int .i64 0, .slice A n c, .int .i64 p] 28)).drewN nq) from JH (J8 J0))
  have FX := η (show Bx ((w.alloc (.cells #[.int .i64 5, .int .i64 0, .slice A n c, .int .i64 p] 28)).drewN nq) w.heap.size #[.int .i64 5, .int .i64 0, .slice A n c, .int .i64 p] 28 from Bx.new w _ _)
  generalize ((w.alloc (.cells #[.int .i64 5, .int .i64 0, .slice A n c, .int .i64 p] 28)).drewN nq) = w1 at *
  refine (Za1 149 A n c d v Q (by omega) (noK1 HK.out) _ (HR.out.below HB.out ν)).mono ?_
  rintro e w2 ⟨rfl, B⟩
  have FX2 := η (FX.out.below B ν)
  have HB2 := η (HB.out.trans (B.mono HB.out.size)); clear B HB FX
  have c0 := FX2.out.cell 0 (v := .int .i64 5) rfl
  have c1 := FX2.out.cell 1 (v := .int .i64 0) rfl
  have c2 := FX2.out.cell 2 (v := .slice A n c) rfl
  have c3 := FX2.out.cell 3 (v := .int .i64 p) rfl
  go_wp2_with fail
  clear c0 c1 c2 c3
  refine (Za1 150 A n c d v Q (by omega) (noK2 HQ.out) _ (HR.out.below HB2.out ν)).mono ?_
  rintro e w3 ⟨rfl, B⟩
  have HB3 := η (HB2.out.trans (B.mono HB2.out.size)); clear B HB2
  go_wp2_with fail
  go_ret
  exact ⟨rfl, HB3.out⟩
theorem Zdf (x y c : Int) (hx : IsW x) (hy : IsW y) (h0 : 0 ≤ c) (h1 : c ≤ 1) (w : World) :
  (callFunc 164 #[.int .u64 x, .int .u64 y, .int .u64 c]).run Tryz.prog w = .ok (.value (.tuple #[.int .u64 (lo (x + y + c)), .int .u64 ((x + y + c) / 18446744073709551616)])) w := by
 unfold IsW at hx hy
 rw [run_callFunc_extern Tryz.func164 (by kernel_rfl) (by kernel_rfl) (by kernel_rfl) (e := add64Entry) (by kernel_rfl), run_add64 x y c hx.1 hy.1 h0 h1]
 rfl
theorem ZjW (x y c : Int) (hx : IsW x) (hy : IsW y) (h0 : 0 ≤ c) (h1 : c ≤ 1) (w : World) :
  (callFunc 152 #[.int .u64 x, .int .u64 y, .int .u64 c]).run Tryz.prog w = .ok (.value (.tuple #[.int .u64 (lo (x - y - c)), .int .u64 (bor x y c)])) w := by
 unfold IsW at hx hy
 obtain ⟨n, rfl⟩ := Int.eq_ofNat_of_zero_le hx.1
 obtain ⟨m, rfl⟩ := Int.eq_ofNat_of_zero_le hy.1
 obtain ⟨k, rfl⟩ := Int.eq_ofNat_of_zero_le h0
 rw [run_callFunc_extern Tryz.func152 (by kernel_rfl) (by kernel_rfl) (by kernel_rfl) (e := sub64Entry) (by kernel_rfl), run_sub64 n m k (by omega)]
 have e1 : (((n + 18446744073709551616 - m - k) % 18446744073709551616 : Nat) : Int) = lo ((n : Int) - m - k) := by unfold lo; omega
 have e2 : ((if n < m + k then 1 else 0 : Nat) : Int) = bor n m k := by unfold bor; split <;> split <;> omega
 rw [e1, e2]
 rfl
theorem ZhS (a b c : Int) (ha : IsW a) (hb : IsW b) (hc : IsW c) (w : World) :
  Calls Tryz.prog 174 #[.int .u64 a, .int .u64 b, .int .u64 c] w fun e w' => e = .returned (.tuple #[.int .u64 (lo (a + b + c % 2)), .int .u64 ((a + b + c % 2) / 18446744073709551616)]) ∧ w = w' := by
 have h := Zdf a b (bits .and .u64 c 1) ha hb (by rw [Zat hc]; omega) (by rw [Zat hc]; omega)
 rw [← Zat hc]
 go_enter Tryz.func174, Tryz.ntmps174
 go_wp2
 go_ret2
 exact ⟨rfl, rfl⟩
theorem ZhT (a b c : Int) (ha : IsW a) (hb : IsW b) (hc : IsW c) (w : World) :
  Calls Tryz.prog 128 #[.int .u64 a, .int .u64 b, .int .u64 c] w fun e w' => e = .returned (.tuple #[.int .u64 (lo (a - b - c % 2)), .int .u64 (bor a b (c % 2))]) ∧ w = w' := by
 have h := ZjW a b (bits .and .u64 c 1) ha hb (by rw [Zat hc]; omega) (by rw [Zat hc]; omega)
 rw [← Zat hc]
 go_enter Tryz.func128, Tryz.ntmps128
 go_wp2
 go_ret2
 exact ⟨rfl, rfl⟩
namespace Mul64
theorem maskN (a : Nat) (ha : a < 18446744073709551616) : bits .and .u64 (a : Int) 4294967295 = ((a % 4294967296 : Nat) : Int) := by
 have h := bits_and_u64_nat a 4294967295 ha (by omega)
 have e : a &&& 4294967295 = a % 4294967296 := Nat.and_two_pow_sub_one_eq_mod a 32
 rw [e] at h
 exact h
theorem divN (a : Nat) : (a : Int) / 4294967296 = ((a / 4294967296 : Nat) : Int) := by omega
theorem mulN (a b : Nat) : (a : Int) * (b : Int) = ((a * b : Nat) : Int) := (Int.natCast_mul a b).symm
theorem addN (a b : Nat) : (a : Int) + (b : Int) = ((a + b : Nat) : Int) := (Int.natCast_add a b).symm
theorem wrapN (a : Nat) (ha : a < 18446744073709551616) : IntKind.u64.wrap (a : Int) = (a : Int) := by rw [IntKind.wrap_u64]; omega
theorem wrapM (a : Nat) : IntKind.u64.wrap (a : Int) = ((a % 18446744073709551616 : Nat) : Int) := by rw [IntKind.wrap_u64]; omega
end Mul64
set_option maxHeartbeats 1000000 in
theorem ZdE (x y : Nat) (hx : x < 18446744073709551616) (hy : y < 18446744073709551616) (w : World) :
  Calls Tryz.prog 163 #[.int .u64 x, .int .u64 y] w fun e w' => e = .returned (.tuple #[.int .u64 ((x * y / 18446744073709551616 : Nat) : Int), .int .u64 ((x * y % 18446744073709551616 : Nat) : Int)]) ∧ w = w' := by
 obtain ⟨bd, bt, bw, hhi⟩ := Lib.mul64_hi x y hx hy
 have ba := Lib.half_mul_le (a := x / 4294967296) (b := y / 4294967296) (by omega) (by omega)
 have bb := Lib.half_mul_le (a := x / 4294967296) (b := y % 4294967296) (by omega) (by omega)
 have bc := Lib.half_mul_le (a := x % 4294967296) (b := y / 4294967296) (by omega) (by omega)
 have ba' : x / 4294967296 * (y / 4294967296) < 18446744073709551616 := by omega
 have bb' : x / 4294967296 * (y % 4294967296) < 18446744073709551616 := by omega
 have bc' : x % 4294967296 * (y / 4294967296) < 18446744073709551616 := by omega
 have bh1 : x / 4294967296 * (y / 4294967296) + (x / 4294967296 * (y % 4294967296) + x % 4294967296 * (y % 4294967296) / 4294967296) / 4294967296 < 18446744073709551616 := by omega
 have bh : x / 4294967296 * (y / 4294967296) + (x / 4294967296 * (y % 4294967296) + x % 4294967296 * (y % 4294967296) / 4294967296) / 4294967296 + ((x / 4294967296 * (y % 4294967296) + x % 4294967296 * (y % 4294967296) / 4294967296) % 4294967296 + x % 4294967296 * (y / 4294967296)) / 4294967296 < 18446744073709551616 := by omega
 go_enter Tryz.func163, Tryz.ntmps163
 go_wp2
 simp only [Mul64.maskN x hx, Mul64.maskN y hy, Mul64.divN, Mul64.mulN, Mul64.addN, Mul64.wrapN _ bd, Mul64.wrapN _ bb', Mul64.wrapN _ bt, Mul64.maskN _ bt, Mul64.wrapN _ bc', Mul64.wrapN _ bw, Mul64.wrapN _ ba', Mul64.wrapN _ bh1, Mul64.wrapN _ bh, Mul64.wrapM (x * y)]
 rw [hhi]
 go_ret2
 exact ⟨rfl, rfl⟩
theorem Zgx (a b : Int) (ha : IsW a) (hb : IsW b) (w : World) :
  Calls Tryz.prog 163 #[.int .u64 a, .int .u64 b] w fun e w' => e = .returned (.tuple #[.int .u64 (hi (a * b)), .int .u64 (lo (a * b))]) ∧ w = w' := by
 have hm := isW_lt_mul ha hb
 unfold IsW at ha hb
 obtain ⟨n, rfl⟩ := Int.eq_ofNat_of_zero_le ha.1
 obtain ⟨m, rfl⟩ := Int.eq_ofNat_of_zero_le hb.1
 have e1 : hi ((n : Int) * m) = ((n * m / 18446744073709551616 : Nat) : Int) := by rw [← Int.natCast_mul] at *; unfold hi; omega
 have e2 : lo ((n : Int) * m) = ((n * m % 18446744073709551616 : Nat) : Int) := by rw [← Int.natCast_mul]; unfold lo; omega
 rw [e1, e2]
 exact ZdE n m (by omega) (by omega) w
set_option maxHeartbeats 400000 in
theorem ZfF (a b c d : Int) (ha : IsW a) (hb : IsW b) (hc : IsW c) (hd : IsW d) (w : World) :
  Calls Tryz.prog 151 #[.int .u64 a, .int .u64 b, .int .u64 c, .int .u64 d] w fun e w' => e = .returned (.tuple #[.int .u64 (hi (a * b + c + d)), .int .u64 (lo (a * b + c + d))]) ∧ w = w' := by
 have hp := isW_lt_mul ha hb
 have hst := ZeP hp hc hd
 rw [← hst.1, ← hst.2]
 clear hst
 generalize hq : a * b = p at *
 have Hq := η hq; clear hq
 have b1 := Zay p
 have b2 := Zjl p
 have b3 := Zay (lo p + c)
 have b4 : 0 ≤ (lo p + c) / 18446744073709551616 ∧ (lo p + c) / 18446744073709551616 ≤ 1 := by unfold IsW at *; omega
 have b5 := Zay (hi p + (lo p + c) / 18446744073709551616)
 have b6 : 0 ≤ (lo (lo p + c) + d) / 18446744073709551616 ∧ (lo (lo p + c) + d) / 18446744073709551616 ≤ 1 := by unfold IsW at *; omega
 have z0 : IsW 0 := by unfold IsW; omega
 have h1 := Zdf (lo p) c 0 b1 hc (by omega) (by omega)
 have h2 := Zdf (hi p) 0 ((lo p + c) / 18446744073709551616) b2 z0 b4.1 b4.2
 have h3 := Zdf (lo (lo p + c)) d 0 b3 hd (by omega) (by omega)
 have h4 := Zdf (lo (hi p + (lo p + c) / 18446744073709551616)) 0 ((lo (lo p + c) + d) / 18446744073709551616) b5 z0 b6.1 b6.2
 simp only [Int.add_zero] at h1 h2 h3 h4
 clear b1 b2 b3 b4 b5 b6 z0 hp
 go_enter Tryz.func151, Tryz.ntmps151
 go_wp2_with (go_at_call 163; refine (Zgx _ _ ha hb _).mono ?_; rintro e w' ⟨rfl, rfl⟩; rw [Hq.out])
 go_ret2
 exact ⟨rfl, rfl⟩
theorem ZaJ (c : Int) (hc : IsW c) (w : World) :
  Calls Tryz.prog 101 #[.int .u64 c] w fun e w' => e = .returned (.int .u64 (msk (decide (c % 2 = 1)))) ∧ w = w' := by
 have h := Zjm hc
 rw [← h, ← wrapU]
 clear h
 go_enter Tryz.func101, Tryz.ntmps101
 go_wp2
 go_ret
 exact ⟨rfl, rfl⟩
theorem Ze0 (a : Int) (ha : IsW a) (w : World) :
  Calls Tryz.prog 72 #[.int .u64 a] w fun e w' => e = .returned (.int .u64 (msk (decide (9223372036854775808 ≤ a)))) ∧ w = w' := by
 have h := ZjS ha
 have e1 : (decide (9223372036854775808 ≤ a)) = decide ((a / 9223372036854775808) % 2 = 1) := by rw [decide_eq_decide]; exact h.2.2.symm
 rw [e1]
 have h1 := h.1
 clear h e1
 go_enter Tryz.func72, Tryz.ntmps72
 go_wp2_with (go_at_call 101; refine (ZaJ _ h1 _).mono ?_; rintro e w' ⟨rfl, rfl⟩)
 go_ret
 exact ⟨rfl, rfl⟩
def isN (n : Nat) : Bool := decide (1 ≤ n ∧ n ≤ 8)
theorem Zap {n : Nat} (h : isN n = true) : 1 ≤ n ∧ n ≤ 8 := by simpa [isN] using h
theorem ZeX (bb : Nat) (A : Option Addr) (n c : Nat) (hn : n ≤ maxLen) (w : World) (h0 : w.cell? ⟨bb, 0, none⟩ = some (.slice A n c)) :
  Calls Tryz.prog 70 #[.slice (some ⟨bb, 0, none⟩) 1 1] w fun e w' => e = .returned (.bool (isN n)) ∧ w = w' := by
 unfold maxLen at hn
 rcases (by omega : n < 1 ∨ (1 ≤ n ∧ n ≤ 8) ∨ 8 < n) with h | h | h
 ·rw [show isN n = false from by simp [isN]; omega]
  go_enter Tryz.func70, Tryz.ntmps70
  go_wp2
  refine wp_loop_rounds 2 ?_
  rw [rounds_succ]
  go_wp2
  go_ret
  exact ⟨rfl, rfl⟩
 ·rw [show isN n = true from by simp [isN]; omega]
  go_enter Tryz.func70, Tryz.ntmps70
  go_wp2
  refine wp_loop_rounds 2 ?_
  rw [rounds_succ]
  go_wp2
  rw [rounds_succ]
  go_wp2
  go_ret
  exact ⟨rfl, rfl⟩
 ·rw [show isN n = false from by simp [isN]; omega]
  go_enter Tryz.func70, Tryz.ntmps70
  go_wp2
  refine wp_loop_rounds 2 ?_
  rw [rounds_succ]
  go_wp2
  go_ret
  exact ⟨rfl, rfl⟩
set_option maxHeartbeats 400000 in
theorem ZcS (bb : Nat) (A A' : Option Addr) (n c m c' : Nat) (hn : n ≤ maxLen) (hm : m ≤ maxLen) (w : World) (h0 : w.cell? ⟨bb, 0, none⟩ = some (.slice A n c)) (h1 : w.cell? ⟨bb, 1, none⟩ = some (.slice A' m c')) :
  Calls Tryz.prog 70 #[.slice (some ⟨bb, 0, none⟩) 2 2] w fun e w' => e = .returned (.bool (isN n && isN m)) ∧ w = w' := by
 unfold maxLen at hn hm
 rcases (by omega : n < 1 ∨ 8 < n ∨ ((1 ≤ n ∧ n ≤ 8) ∧ m < 1) ∨ ((1 ≤ n ∧ n ≤ 8) ∧ 8 < m) ∨ ((1 ≤ n ∧ n ≤ 8) ∧ 1 ≤ m ∧ m ≤ 8)) with h | h | h | h | h
 ·rw [show (isN n && isN m) = false from by simp [isN]; omega]
  go_enter Tryz.func70, Tryz.ntmps70
  go_wp2
  refine wp_loop_rounds 3 ?_
  rw [rounds_succ]
  go_wp2
  go_ret
  exact ⟨rfl, rfl⟩
 ·rw [show (isN n && isN m) = false from by simp [isN]; omega]
  go_enter Tryz.func70, Tryz.ntmps70
  go_wp2
  refine wp_loop_rounds 3 ?_
  rw [rounds_succ]
  go_wp2
  go_ret
  exact ⟨rfl, rfl⟩
 ·rw [show (isN n && isN m) = false from by simp [isN]; omega]
  go_enter Tryz.func70, Tryz.ntmps70
  go_wp2
  refine wp_loop_rounds 3 ?_
  rw [rounds_succ]
  go_wp2
  rw [rounds_succ]
  go_wp2
  go_ret
  exact ⟨rfl, rfl⟩
 ·rw [show (isN n && isN m) = false from by simp [isN]; omega]
  go_enter Tryz.func70, Tryz.ntmps70
  go_wp2
  refine wp_loop_rounds 3 ?_
  rw [rounds_succ]
  go_wp2
  rw [rounds_succ]
  go_wp2
  go_ret
  exact ⟨rfl, rfl⟩
 ·rw [show (isN n && isN m) = true from by simp [isN]; omega]
  go_enter Tryz.func70, Tryz.ntmps70
  go_wp2
  refine wp_loop_rounds 3 ?_
  rw [rounds_succ]
  go_wp2
  rw [rounds_succ]
  go_wp2
  rw [rounds_succ]
  go_wp2
  go_ret
  exact ⟨rfl, rfl⟩
theorem ret1 {k : IntKind} {a b : Int} (h : a = b) : Ending.returned (.int k a) = Ending.returned (.int k b) := by rw [h]
theorem Zax (a : Int) (ha : IsW a) (w : World) :
  Calls Tryz.prog 73 #[.int .u64 a] w fun e w' => e = .returned (.int .u64 (msk (decide (a = 0)))) ∧ w = w' := by
 have h1 := Zjo ha
 have hor := or_w ha (Zay (-a))
 rw [Int.zero_sub] at h1
 have hn : IsW ((18446744073709551615 - bits .or .u64 a (lo (-a))) / 9223372036854775808) := by unfold IsW at *; omega
 have e : msk (decide (a = 0)) = msk (decide ((18446744073709551615 - bits .or .u64 a (lo (-a))) / 9223372036854775808 % 2 = 1)) := by
  rw [h1]; by_cases h : a = 0 <;> simp [h]
 rw [e]
 have HN := η hn; have HO := η hor
 clear h1 hor hn e
 have hsg : IntKind.u64.signed = false := rfl
 go_enter Tryz.func73, Tryz.ntmps73
 go_wp2_with fail
 simp only [wrapU]
 rw [Zgr HO.out]
 refine (ZaJ _ HN.out _).mono ?_
 rintro e w' ⟨rfl, rfl⟩
 go_wp2_with fail
 go_ret
 exact ⟨rfl, rfl⟩
theorem ZfG (m : Bool) (a b : Int) (ha : IsW a) (hb : IsW b) (w : World) :
  Calls Tryz.prog 100 #[.int .u64 (msk m), .int .u64 a, .int .u64 b] w fun e w' => e = .returned (.int .u64 (selI m a b)) ∧ w = w' := by
 rw [← Zc6 m ha hb]
 go_enter Tryz.func100, Tryz.ntmps100
 go_wp2
 go_ret
 exact ⟨rfl, rfl⟩
def TabM (w : World) : Prop := w.cell? ⟨0, 0, none⟩ = some (.int .u64 9223372036854775808) ∧ w.cell? ⟨0, 1, none⟩ = some (.int .u64 18446744073709551615)
theorem Zdg {w : World} {b o : Nat} {v : Value} (h : w.cell? ⟨b, o, none⟩ = some v) : b < w.heap.size := by
 rcases Nat.lt_or_ge b w.heap.size with h1 | h1
 ·exact h1
 ·simp [World.cell?, Array.getElem?_eq_none h1] at h
theorem TabM.below {w w' : World} {B : Nat} (h : TabM w) (hb : Below B w w') (hB : w.heap.size ≤ B) : TabM w' := by
 have hlt := Zdg h.1
 have hB' : 0 < B := by omega
 exact ⟨(hb.cell (p := ⟨0, 0, none⟩) hB').trans h.1, (hb.cell (p := ⟨0, 1, none⟩) hB').trans h.2⟩
theorem Zaz {P : Program} {f : FuncId} {args : Array Value} {w : World} {v : Value} (h : Calls P f args w fun e w' => e = .returned v ∧ w = w') : Calls P f args w fun e w' => e = .returned v ∧ w' = w :=
 h.mono fun _ _ ⟨he, hw⟩ => ⟨he, hw.symm⟩
theorem ZhU (b : Bool) (w : World) : Calls Tryz.prog 101 #[.int .u64 (msk b)] w fun e w' => e = .returned (.int .u64 (msk b)) ∧ w' = w := by
 have h := ZaJ (msk b) (Zcr b) w
 rw [show decide (msk b % 2 = 1) = b from by cases b <;> rfl] at h
 exact Zaz h
def sgnM (neg zero : Bool) : Int := if neg then -1 else if zero then 0 else 1
theorem Ze1 (neg zero : Bool) (w : World) (hT : TabM w) :
  Calls Tryz.prog 71 #[.int .u64 (msk neg), .int .u64 (msk zero)] w fun e w' => e = .returned (.int .i64 (sgnM neg zero)) ∧ ∃ n, w' = w.drewN n := by
 have c1 := hT.2
 have e1 : bits .and .u64 (bits .xor .u64 IntKind.u64.max (msk zero)) 1 = if zero then 0 else 1 := by cases zero <;> rfl
 have e2 : wrap64 (selI neg 18446744073709551615 (if zero then 0 else 1)) = sgnM neg zero := by rw [← IntWalk.i64_left]; cases neg <;> cases zero <;> rfl
 have e3 : IsW (if zero then 0 else 1) := by cases zero <;> (unfold IsW; decide)
 rw [← e2]
 rw [← e1] at e3 ⊢
 have hlt : 0 < w.heap.size := Zdg hT.1
 have hsg : IntKind.u64.signed = false := rfl
 have E3 := η e3
 clear e1 e2 e3 hT
 go_enter Tryz.func71, Tryz.ntmps71
 go_wp2_with fail
 go_quiet ((first | (go_at_call 101; exact Calls.quiet_of_same (ZhU _ _)) | (go_at_call 100; exact Calls.quiet_of_same (Zaz (ZfG neg _ _ (by unfold IsW; decide) E3.out _)))))
 go_wp2_with fail
 go_ret
 exact ⟨rfl, nq, rfl⟩
structure TabF (w : World) : Prop where
 c0 : w.cell? ⟨1, 0, none⟩ = some (.int .i64 0)
 c1 : w.cell? ⟨1, 1, none⟩ = some (.int .i64 3)
 c2 : w.cell? ⟨1, 2, none⟩ = some (.int .i64 4)
 c3 : w.cell? ⟨1, 3, none⟩ = some (.int .i64 1)
 c4 : w.cell? ⟨1, 4, none⟩ = some (.int .i64 1)
 c5 : w.cell? ⟨1, 5, none⟩ = some (.int .i64 0)
theorem TabF.below {w w' : World} {B : Nat} (h : TabF w) (hb : Below B w w') (hB : w.heap.size ≤ B) : TabF w' := by
 have hlt := block_lt_of_cell h.c0
 have k : ∀ i, w'.cell? ⟨1, i, none⟩ = w.cell? ⟨1, i, none⟩ := fun i => hb.cell (p := ⟨1, i, none⟩) (by show 1 < B; exact Nat.lt_of_lt_of_le hlt hB)
 exact ⟨(k 0).trans h.c0, (k 1).trans h.c1, (k 2).trans h.c2, (k 3).trans h.c3, (k 4).trans h.c4, (k 5).trans h.c5⟩
theorem TabF.alloc {w : World} (h : TabF w) (o : Obj) : TabF (w.alloc o) := h.below ((Below.refl w.heap.size w).alloc ν o) ν
theorem TabF.drew {w : World} (h : TabF w) : TabF w.drew := h.below (Below.refl w.heap.size w).drew ν
def Zbi (op : Int) : Int := if op = 1 then 48 else 64
set_option maxRecDepth 100000 in
theorem Zba (op : Int) (ho : op = 1 ∨ op = 2) (w : World) (hT : TabF w) :
  Calls Tryz.prog 108 #[.agg #[.int .i64 op, .int .i64 0, .slice none 0 0, .int .i64 0]] w fun e w' => e = .returned (.int .i64 (Zbi op)) ∧ Below w.heap.size w w' := by
 have HT := η hT; clear hT
 rcases ho with rfl | rfl
 ·go_enter Tryz.func108, Tryz.ntmps108
  go_wp2_with fail
  have HX := η (Bx.new w #[.int .i64 1, .int .i64 0, .slice none 0 0, .int .i64 0] 28)
  have HT1 := η (HT.out.alloc (.cells #[.int .i64 1, .int .i64 0, .slice none 0 0, .int .i64 0] 28))
  have HB1 := η (show Below w.heap.size w (w.alloc (.cells #[.int .i64 1, .int .i64 0, .slice none 0 0, .int .i64 0] 28)) from J8 J0)
  generalize w.alloc (.cells #[.int .i64 1, .int .i64 0, .slice none 0 0, .int .i64 0] 28) = w1 at *
  refine (Za8 _ (by decide) _).mono ?_
  rintro e w2 ⟨rfl, B⟩
  have HX2 := η (HX.out.below B ν); have HT2 := η (HT1.out.below B ν); have HB2 := η (J6 HB1.out B)
  clear B HX HT1 HB1 HT
  have c0 := HX2.out.cell 0 (v := .int .i64 1) rfl
  have c1 := HX2.out.cell 1 (v := .int .i64 0) rfl
  have c2 := HX2.out.cell 2 (v := .slice none 0 0) rfl
  have c3 := HX2.out.cell 3 (v := .int .i64 0) rfl
  have t1 := HT2.out.c1
  have t2 := HT2.out.c2
  go_wp2_with fail
  go_quiet (fail)
  go_wp2_with fail
  refine wp_loop_rounds 1 ?_
  rw [rounds_succ]
  go_wp2_with fail
  go_ret
  exact ⟨rfl, JH HB2.out⟩
 ·go_enter Tryz.func108, Tryz.ntmps108
  go_wp2_with fail
  have HX := η (Bx.new w #[.int .i64 2, .int .i64 0, .slice none 0 0, .int .i64 0] 28)
  have HT1 := η (HT.out.alloc (.cells #[.int .i64 2, .int .i64 0, .slice none 0 0, .int .i64 0] 28))
  have HB1 := η (show Below w.heap.size w (w.alloc (.cells #[.int .i64 2, .int .i64 0, .slice none 0 0, .int .i64 0] 28)) from J8 J0)
  generalize w.alloc (.cells #[.int .i64 2, .int .i64 0, .slice none 0 0, .int .i64 0] 28) = w1 at *
  refine (Za8 _ (by decide) _).mono ?_
  rintro e w2 ⟨rfl, B⟩
  have HX2 := η (HX.out.below B ν); have HT2 := η (HT1.out.below B ν); have HB2 := η (J6 HB1.out B)
  clear B HX HT1 HB1 HT
  have c0 := HX2.out.cell 0 (v := .int .i64 2) rfl
  have c1 := HX2.out.cell 1 (v := .int .i64 0) rfl
  have c2 := HX2.out.cell 2 (v := .slice none 0 0) rfl
  have c3 := HX2.out.cell 3 (v := .int .i64 0) rfl
  have t1 := HT2.out.c1
  have t2 := HT2.out.c2
  go_wp2_with fail
  go_quiet (fail)
  go_wp2_with fail
  refine wp_loop_rounds 1 ?_
  rw [rounds_succ]
  go_wp2_with fail
  go_ret
  exact ⟨rfl, JH HB2.out⟩
set_option maxRecDepth 100000 in
theorem ZaX (A : Option Addr) (c : Nat) (op : Int) (ho : op = 1 ∨ op = 2) (l : List Int) (w : World) (hT : TabF w) (hb : By w A c (op :: l)) (hl : (l.length : Int) = Zbi op) :
  Calls Tryz.prog 77 #[.slice A (l.length + 1) c] w fun e w' => e = .returned (.int .i64 0) ∧ Below w.heap.size w w' := by
 have HT := η hT; have HB := η hb; have HL := η hl; clear hT hb
 have hp : Zbi 1 = 48 := rfl
 have hp2 : Zbi 2 = 64 := rfl
 have HP := η hp; have HP2 := η hp2; clear hp hp2 hl
 have hmx := HB.out.cap; have hm2 := HB.out.max
 simp only [List.length_cons] at hmx
 unfold maxLen at hm2
 rcases ho with rfl | rfl
 ·go_enter Tryz.func77, Tryz.ntmps77
  go_wp2_with fail
  refine (Za7 A c 1 (by decide) l _ HB.out).mono ?_
  rintro e w1 ⟨rfl, B⟩
  have HT1 := η (HT.out.below B ν); have HB1 := η B; clear B HT
  go_wp2_with fail
  have HX2 := η (Bx.new w1 #[.int .i64 1, .int .i64 0, .slice none 0 0, .int .i64 0] 28)
  have HT2 := η (HT1.out.alloc (.cells #[.int .i64 1, .int .i64 0, .slice none 0 0, .int .i64 0] 28))
  have HB2 := η (HB1.out.alloc HB1.out.size (.cells #[.int .i64 1, .int .i64 0, .slice none 0 0, .int .i64 0] 28))
  generalize w1.alloc (.cells #[.int .i64 1, .int .i64 0, .slice none 0 0, .int .i64 0] 28) = w2 at *
  clear HT1 HB1
  have c0 := HX2.out.cell 0 (v := .int .i64 1) rfl
  have c1 := HX2.out.cell 1 (v := .int .i64 0) rfl
  have c2 := HX2.out.cell 2 (v := .slice none 0 0) rfl
  have c3 := HX2.out.cell 3 (v := .int .i64 0) rfl
  go_wp2_with fail
  refine (Zba 1 (by decide) _ HT2.out).mono ?_
  rintro e w3 ⟨rfl, B⟩
  have HB3 := η (HB2.out.trans (B.mono HB2.out.size)); clear B
  rw [show Zbi 1 = 48 from rfl]
  have hln : l.length = 48 := by have := HL.out; rw [show Zbi 1 = 48 from rfl] at this; omega
  have HLN := η hln
  rw [hln]
  clear hln
  go_wp2_with fail
  go_ret
  exact ⟨rfl, HB3.out⟩
 ·go_enter Tryz.func77, Tryz.ntmps77
  go_wp2_with fail
  refine (Za7 A c 2 (by decide) l _ HB.out).mono ?_
  rintro e w1 ⟨rfl, B⟩
  have HT1 := η (HT.out.below B ν); have HB1 := η B; clear B HT
  go_wp2_with fail
  have HX2 := η (Bx.new w1 #[.int .i64 2, .int .i64 0, .slice none 0 0, .int .i64 0] 28)
  have HT2 := η (HT1.out.alloc (.cells #[.int .i64 2, .int .i64 0, .slice none 0 0, .int .i64 0] 28))
  have HB2 := η (HB1.out.alloc HB1.out.size (.cells #[.int .i64 2, .int .i64 0, .slice none 0 0, .int .i64 0] 28))
  generalize w1.alloc (.cells #[.int .i64 2, .int .i64 0, .slice none 0 0, .int .i64 0] 28) = w2 at *
  clear HT1 HB1
  have c0 := HX2.out.cell 0 (v := .int .i64 2) rfl
  have c1 := HX2.out.cell 1 (v := .int .i64 0) rfl
  have c2 := HX2.out.cell 2 (v := .slice none 0 0) rfl
  have c3 := HX2.out.cell 3 (v := .int .i64 0) rfl
  go_wp2_with fail
  refine (Zba 2 (by decide) _ HT2.out).mono ?_
  rintro e w3 ⟨rfl, B⟩
  have HB3 := η (HB2.out.trans (B.mono HB2.out.size)); clear B
  rw [show Zbi 2 = 64 from rfl]
  have hln : l.length = 64 := by have := HL.out; rw [show Zbi 2 = 64 from rfl] at this; omega
  have HLN := η hln
  rw [hln]
  clear hln
  go_wp2_with fail
  go_ret
  exact ⟨rfl, HB3.out⟩
set_option maxRecDepth 100000 in
theorem Jw (op : Int) (ho : op = 1 ∨ op = 2) (w : World) :
  Calls Tryz.prog 88 #[.agg #[.int .i64 op, .int .i64 0, .slice none 0 0, .int .i64 0]] w fun e w' => (∃ v, e = .returned (.tuple #[v, .int .i64 0]) ∧ OwB w' w.heap.size v [op]) ∧ Below w.heap.size w w' := by
 rcases ho with rfl | rfl
 ·go_enter Tryz.func88, Tryz.ntmps88
  go_wp2_with fail
  have HX := η (Bx.new w #[.int .i64 1, .int .i64 0, .slice none 0 0, .int .i64 0] 28)
  have HB1 := η (show Below w.heap.size w (w.alloc (.cells #[.int .i64 1, .int .i64 0, .slice none 0 0, .int .i64 0] 28)) from J8 J0)
  generalize w.alloc (.cells #[.int .i64 1, .int .i64 0, .slice none 0 0, .int .i64 0] 28) = w1 at *
  have c0 := HX.out.cell 0 (v := .int .i64 1) rfl
  have c1 := HX.out.cell 1 (v := .int .i64 0) rfl
  have c2 := HX.out.cell 2 (v := .slice none 0 0) rfl
  have c3 := HX.out.cell 3 (v := .int .i64 0) rfl
  go_wp2_with fail
  refine (Za8 _ (by decide) _).mono ?_
  rintro e w2 ⟨rfl, B⟩
  have HX2 := η (HX.out.below B ν); have HB2 := η (J6 HB1.out B)
  clear B HX HB1 c0 c1 c2 c3
  have c0 := HX2.out.cell 0 (v := .int .i64 1) rfl
  have c1 := HX2.out.cell 1 (v := .int .i64 0) rfl
  have c2 := HX2.out.cell 2 (v := .slice none 0 0) rfl
  have c3 := HX2.out.cell 3 (v := .int .i64 0) rfl
  have hlt := HX2.out.lt
  go_wp2_with fail
  have HO := η (show OwB (w2.alloc (.cells #[.int .u8 1] 5)) w.heap.size (.slice (some ⟨w2.heap.size, 0, none⟩) 1 1) [1] from ⟨rfl, .inr ⟨w2.heap.size, 1, #[.int .u8 1], rfl, HB2.out.size, Bx.new _ _ _, Nat.le_refl _, by decide, rfl, rfl⟩⟩)
  have HB3 := η (HB2.out.alloc HB2.out.size (.cells #[.int .u8 1] 5))
  refine wp_loop_rounds 1 ?_
  rw [rounds_succ]
  go_wp2_with fail
  go_ret2
  exact ⟨⟨_, rfl, HO.out⟩, HB3.out⟩
 ·go_enter Tryz.func88, Tryz.ntmps88
  go_wp2_with fail
  have HX := η (Bx.new w #[.int .i64 2, .int .i64 0, .slice none 0 0, .int .i64 0] 28)
  have HB1 := η (show Below w.heap.size w (w.alloc (.cells #[.int .i64 2, .int .i64 0, .slice none 0 0, .int .i64 0] 28)) from J8 J0)
  generalize w.alloc (.cells #[.int .i64 2, .int .i64 0, .slice none 0 0, .int .i64 0] 28) = w1 at *
  have c0 := HX.out.cell 0 (v := .int .i64 2) rfl
  have c1 := HX.out.cell 1 (v := .int .i64 0) rfl
  have c2 := HX.out.cell 2 (v := .slice none 0 0) rfl
  have c3 := HX.out.cell 3 (v := .int .i64 0) rfl
  go_wp2_with fail
  refine (Za8 _ (by decide) _).mono ?_
  rintro e w2 ⟨rfl, B⟩
  have HX2 := η (HX.out.below B ν); have HB2 := η (J6 HB1.out B)
  clear B HX HB1 c0 c1 c2 c3
  have c0 := HX2.out.cell 0 (v := .int .i64 2) rfl
  have c1 := HX2.out.cell 1 (v := .int .i64 0) rfl
  have c2 := HX2.out.cell 2 (v := .slice none 0 0) rfl
  have c3 := HX2.out.cell 3 (v := .int .i64 0) rfl
  have hlt := HX2.out.lt
  go_wp2_with fail
  have HO := η (show OwB (w2.alloc (.cells #[.int .u8 2] 5)) w.heap.size (.slice (some ⟨w2.heap.size, 0, none⟩) 1 1) [2] from ⟨rfl, .inr ⟨w2.heap.size, 1, #[.int .u8 2], rfl, HB2.out.size, Bx.new _ _ _, Nat.le_refl _, by decide, rfl, rfl⟩⟩)
  have HB3 := η (HB2.out.alloc HB2.out.size (.cells #[.int .u8 2] 5))
  refine wp_loop_rounds 1 ?_
  rw [rounds_succ]
  go_wp2_with fail
  go_ret2
  exact ⟨⟨_, rfl, HO.out⟩, HB3.out⟩
set_option maxRecDepth 100000 in
theorem Za9 (op : Int) (ho : op = 1 ∨ op = 2) (w : World) :
  Calls Tryz.prog 82 #[.agg #[.int .i64 op, .int .i64 0, .slice none 0 0, .int .i64 0]] w fun e w' => e = .returned (.tuple #[.int .i64 (op + 2), .int .i64 0]) ∧ Below w.heap.size w w' := by
 rcases ho with rfl | rfl
 ·go_enter Tryz.func82, Tryz.ntmps82
  go_wp2_with fail
  go_ret2
  exact ⟨rfl, J8 J0⟩
 ·go_enter Tryz.func82, Tryz.ntmps82
  go_wp2_with fail
  go_ret2
  exact ⟨rfl, J8 J0⟩
def sumZ (v : Nat → Int) : Nat → Int
 | 0 => 0
 | k + 1 => sumZ v k + szf (v k)
theorem JM (v : Nat → Int) : ∀ k, 0 ≤ sumZ v k ∧ sumZ v k ≤ 64 * (k : Int)
 | 0 => by simp [sumZ]
 | k + 1 => by have := JM v k; have := Zaw (v k); rw [sumZ]; omega
def payR (op p S : Int) : Int := if op = 4 then (1 + S) * 16 else S * 16 + p * 24
set_option maxRecDepth 100000 in
theorem Zbj (op p : Int) (hop : OpP op p) (A : Option Addr) (n c : Nat) (d : Nat → Bool) (v : Nat → Int) (Q : Nat → Option Addr × Nat × Nat) (ho : OkK n v) (hq : ∀ k, k < n → (Q k).2.1 = 0) (w : World) (hT : TabF w) (hr : Rgs w A n c d v Q) :
  Calls Tryz.prog 108 #[.agg #[.int .i64 op, .int .i64 0, .slice A n c, .int .i64 p]] w fun e w' => e = .returned (.int .i64 (payR op p (sumZ v n))) ∧ Below w.heap.size w w' := by
 have HR := η hr; have HO := η ho; have HQ := η hq; have HT := η hT
 have HOP := hop
 have hcp := hr.cap
 have hmx := hr.max
 have h1 := ho.pos
 have h2 := ho.le
 clear hr ho hq hT
 unfold maxLen at hmx
 obtain ⟨b, off, rfl, hbl, hc⟩ := HR.out.at_ (by omega)
 have HC := η hc; have HBL := η hbl; clear hc hbl
 rcases hop with ⟨h, h'⟩ | ⟨h, hp1, hp2⟩
 ·subst h; subst h'
  go_enter Tryz.func108, Tryz.ntmps108
  go_wp2_with fail
  have HX := η (Bx.new w #[.int .i64 4, .int .i64 0, .slice (some ⟨b, off, none⟩) n c, .int .i64 0] 28)
  have HB1 := η (show Below w.heap.size w (w.alloc (.cells #[.int .i64 4, .int .i64 0, .slice (some ⟨b, off, none⟩) n c, .int .i64 0] 28)) from J8 J0)
  generalize w.alloc (.cells #[.int .i64 4, .int .i64 0, .slice (some ⟨b, off, none⟩) n c, .int .i64 0] 28) = w1 at *
  refine (Zan 4 0 HOP (some ⟨b, off, none⟩) n c d v Q HO.out HQ.out _ (HR.out.below HB1.out ν)).mono ?_
  rintro e w2 ⟨rfl, B⟩
  have HX2 := η (HX.out.below B ν); have HB2 := η (J6 HB1.out B); have HT2 := η (HT.out.below HB2.out ν)
  clear B HX HB1
  have c0 := HX2.out.cell 0 (v := .int .i64 4) rfl
  have c1 := HX2.out.cell 1 (v := .int .i64 0) rfl
  have c2 := HX2.out.cell 2 (v := .slice (some ⟨b, off, none⟩) n c) rfl
  have c3 := HX2.out.cell 3 (v := .int .i64 0) rfl
  have t1 := HT2.out.c4
  go_wp2_with fail
  go_quiet (fail)
  go_wp2_with fail
  clear c0 c1 c2 c3 t1
  have HB3 := η (show Below w.heap.size w (w2.drewN nq) from JH HB2.out)
  have HX3 := η (show Bx (w2.drewN nq) w.heap.size #[.int .i64 4, .int .i64 0, .slice (some ⟨b, off, none⟩) n c, .int .i64 0] 28 from HX2.out)
  clear HX2 HB2 HT2
  generalize w2.drewN nq = w3 at *
  go_loopw [3, 19] (fun mr ir wr => ∃ (k : Nat) (s : Int), k ≤ n ∧ mr = .int .i64 s ∧ s = 1 + sumZ v k ∧ ir = .int .i64 (k : Int) ∧ Bx wr w.heap.size #[.int .i64 4, .int .i64 0, .slice (some ⟨b, off, none⟩) n c, .int .i64 0] 28 ∧ Below w.heap.size w wr) (fun _ i _ => n - (intOf i).toNat)
  case atStart => exact ⟨0, 1, by omega, rfl, rfl, rfl, HX3.out, HB3.out⟩
  case round =>
   obtain ⟨k, s, hk, rfl, hsz, rfl, hx, hb⟩ := hrel
   have HB := η hb; have HXR := η hx; have HS := η hsz; clear hb hx hsz
   by_cases hlt : k < n
   ·have p0 : wr.cell? ⟨b, off + k * 3, none⟩ = some (.bool (d k)) := (HB.out.cell (p := ⟨b, off + k * 3, none⟩) HBL.out).trans (HC.out k hlt).1
    have p1 : wr.cell? ⟨b, off + k * 3 + 1, none⟩ = some (.int .i64 (v k)) := (HB.out.cell (p := ⟨b, off + k * 3 + 1, none⟩) HBL.out).trans (HC.out k hlt).2.1
    have p2 : wr.cell? ⟨b, off + k * 3 + 2, none⟩ = some (.slice (Q k).1 (Q k).2.1 (Q k).2.2) := (HB.out.cell (p := ⟨b, off + k * 3 + 2, none⟩) HBL.out).trans (HC.out k hlt).2.2
    have hms := η (show n - (intOf (.int .i64 ((k : Int) + 1))).toNat < n - (intOf (.int .i64 (k : Int))).toNat from by simp [intOf]; omega)
    go_wp2_with fail
    clear p0 p1 p2
    have HX5 := η (HXR.out.alloc (.cells #[.bool (d k), .int .i64 (v k), .slice (Q k).1 (Q k).2.1 (Q k).2.2] 48))
    have HB5 := η (HB.out.trans ((show Below wr.heap.size wr (wr.alloc (.cells #[.bool (d k), .int .i64 (v k), .slice (Q k).1 (Q k).2.1 (Q k).2.2] 48)) from J8 J0).mono HB.out.size)); clear HB HXR
    refine (JW (d k) (v k) _ _ _ _).mono ?_
    rintro e w6 ⟨rfl, B⟩
    have HX6 := η (HX5.out.below B ν)
    have HB6 := η (HB5.out.trans (B.mono HB5.out.size)); clear B HB5 HX5
    have HSR := η (JM v k); have HZR := η (Zaw (v k))
    have e1 : IntKind.i64.wrap (s + szf (v k)) = s + szf (v k) := by have := HSR.out; have := HZR.out; have := HS.out; rw [IntKind.wrap_i64]; omega
    go_wp2_with fail
    go_roundw
    case rel => exact ⟨k + 1, _, hlt, rfl, by have := HS.out; rw [sumZ]; omega, by go_num, HX6.out, HB6.out⟩
    case measure => exact hms.out
   ·obtain rfl : k = n := by omega
    have c3 := HXR.out.cell 3 (v := .int .i64 0) rfl
    have HSR := η (JM v k)
    have e1 : IntKind.i64.wrap (s * 16) = s * 16 := by have := HSR.out; have := HS.out; rw [IntKind.wrap_i64]; omega
    have e2 : IntKind.i64.wrap (0 * 24) = 0 * 24 := by rw [IntKind.wrap_i64]; omega
    have e3 : IntKind.i64.wrap (s * 16 + 0 * 24) = s * 16 + 0 * 24 := by have := HSR.out; have := HS.out; rw [IntKind.wrap_i64]; omega
    have HE := η (show payR 4 0 (sumZ v k) = s * 16 + 0 * 24 from by rw [HS.out]; unfold payR; simp)
    go_wp2_with fail
    go_ret
    exact ⟨by rw [HE.out]; simp, HB.out⟩
 ·subst h
  go_enter Tryz.func108, Tryz.ntmps108
  go_wp2_with fail
  have HX := η (Bx.new w #[.int .i64 5, .int .i64 0, .slice (some ⟨b, off, none⟩) n c, .int .i64 p] 28)
  have HB1 := η (show Below w.heap.size w (w.alloc (.cells #[.int .i64 5, .int .i64 0, .slice (some ⟨b, off, none⟩) n c, .int .i64 p] 28)) from J8 J0)
  generalize w.alloc (.cells #[.int .i64 5, .int .i64 0, .slice (some ⟨b, off, none⟩) n c, .int .i64 p] 28) = w1 at *
  refine (Zan 5 p HOP (some ⟨b, off, none⟩) n c d v Q HO.out HQ.out _ (HR.out.below HB1.out ν)).mono ?_
  rintro e w2 ⟨rfl, B⟩
  have HX2 := η (HX.out.below B ν); have HB2 := η (J6 HB1.out B); have HT2 := η (HT.out.below HB2.out ν)
  clear B HX HB1
  have c0 := HX2.out.cell 0 (v := .int .i64 5) rfl
  have c1 := HX2.out.cell 1 (v := .int .i64 0) rfl
  have c2 := HX2.out.cell 2 (v := .slice (some ⟨b, off, none⟩) n c) rfl
  have c3 := HX2.out.cell 3 (v := .int .i64 p) rfl
  have t1 := HT2.out.c5
  go_wp2_with fail
  go_quiet (fail)
  go_wp2_with fail
  clear c0 c1 c2 c3 t1
  have HB3 := η (show Below w.heap.size w (w2.drewN nq) from JH HB2.out)
  have HX3 := η (show Bx (w2.drewN nq) w.heap.size #[.int .i64 5, .int .i64 0, .slice (some ⟨b, off, none⟩) n c, .int .i64 p] 28 from HX2.out)
  clear HX2 HB2 HT2
  generalize w2.drewN nq = w3 at *
  go_loopw [3, 19] (fun mr ir wr => ∃ (k : Nat) (s : Int), k ≤ n ∧ mr = .int .i64 s ∧ s = 0 + sumZ v k ∧ ir = .int .i64 (k : Int) ∧ Bx wr w.heap.size #[.int .i64 5, .int .i64 0, .slice (some ⟨b, off, none⟩) n c, .int .i64 p] 28 ∧ Below w.heap.size w wr) (fun _ i _ => n - (intOf i).toNat)
  case atStart => exact ⟨0, 0, by omega, rfl, rfl, rfl, HX3.out, HB3.out⟩
  case round =>
   obtain ⟨k, s, hk, rfl, hsz, rfl, hx, hb⟩ := hrel
   have HB := η hb; have HXR := η hx; have HS := η hsz; clear hb hx hsz
   by_cases hlt : k < n
   ·have p0 : wr.cell? ⟨b, off + k * 3, none⟩ = some (.bool (d k)) := (HB.out.cell (p := ⟨b, off + k * 3, none⟩) HBL.out).trans (HC.out k hlt).1
    have p1 : wr.cell? ⟨b, off + k * 3 + 1, none⟩ = some (.int .i64 (v k)) := (HB.out.cell (p := ⟨b, off + k * 3 + 1, none⟩) HBL.out).trans (HC.out k hlt).2.1
    have p2 : wr.cell? ⟨b, off + k * 3 + 2, none⟩ = some (.slice (Q k).1 (Q k).2.1 (Q k).2.2) := (HB.out.cell (p := ⟨b, off + k * 3 + 2, none⟩) HBL.out).trans (HC.out k hlt).2.2
    have hms := η (show n - (intOf (.int .i64 ((k : Int) + 1))).toNat < n - (intOf (.int .i64 (k : Int))).toNat from by simp [intOf]; omega)
    go_wp2_with fail
    clear p0 p1 p2
    have HX5 := η (HXR.out.alloc (.cells #[.bool (d k), .int .i64 (v k), .slice (Q k).1 (Q k).2.1 (Q k).2.2] 48))
    have HB5 := η (HB.out.trans ((show Below wr.heap.size wr (wr.alloc (.cells #[.bool (d k), .int .i64 (v k), .slice (Q k).1 (Q k).2.1 (Q k).2.2] 48)) from J8 J0).mono HB.out.size)); clear HB HXR
    refine (JW (d k) (v k) _ _ _ _).mono ?_
    rintro e w6 ⟨rfl, B⟩
    have HX6 := η (HX5.out.below B ν)
    have HB6 := η (HB5.out.trans (B.mono HB5.out.size)); clear B HB5 HX5
    have HSR := η (JM v k); have HZR := η (Zaw (v k))
    have e1 : IntKind.i64.wrap (s + szf (v k)) = s + szf (v k) := by have := HSR.out; have := HZR.out; have := HS.out; rw [IntKind.wrap_i64]; omega
    go_wp2_with fail
    go_roundw
    case rel => exact ⟨k + 1, _, hlt, rfl, by have := HS.out; rw [sumZ]; omega, by go_num, HX6.out, HB6.out⟩
    case measure => exact hms.out
   ·obtain rfl : k = n := by omega
    have c3 := HXR.out.cell 3 (v := .int .i64 p) rfl
    have HSR := η (JM v k)
    have e1 : IntKind.i64.wrap (s * 16) = s * 16 := by have := HSR.out; have := HS.out; rw [IntKind.wrap_i64]; omega
    have e2 : IntKind.i64.wrap (p * 24) = p * 24 := by rw [IntKind.wrap_i64]; omega
    have e3 : IntKind.i64.wrap (s * 16 + p * 24) = s * 16 + p * 24 := by have := HSR.out; have := HS.out; rw [IntKind.wrap_i64]; omega
    have HE := η (show payR 5 p (sumZ v k) = s * 16 + p * 24 from by rw [HS.out]; unfold payR; simp)
    go_wp2_with fail
    go_ret
    exact ⟨by rw [HE.out]; simp, HB.out⟩
end Go.Proofs.YtjdiilkljgljkaaGreatDoor
