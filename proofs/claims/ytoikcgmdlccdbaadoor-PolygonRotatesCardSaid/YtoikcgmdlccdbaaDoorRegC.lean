/- A region that draws its order, of operations that yield values (loads, calls ..) and of variables: what each value obeys, whatever the order. -/
import Derived.Test.YtoikcgmdlccdbaaDoorRegB
import Derived.Test.YtoikcgmdlccdbaaDoorBoxN
namespace Go.Proofs.YtoikcgmdlccdbaaDoor
set_option linter.unusedVariables false
set_option linter.unusedSimpArgs false
open Go.RowKit Wd

/-- an operation that yields a value: its number, its slot, what holds of the value -/
structure ValD where
  op : Nat
  slot : Nat
  P : Value → World → Prop

/-- no cell holds a word -/
def NoU (cs : Array Value) : Prop := ∀ u ∈ cs.toList, ∀ x, u ≠ .int .u64 x
/-- what stays behind new blocks and stores into variables -/
structure Stay (p : World → Prop) : Prop where
  below : ∀ w w', Below w.heap.size w w' → p w → p w'
  store : ∀ (w : World) (B : Nat) (cs : Array Value) (ty : TypeId), NoU cs → ty ≠ 3 → Bx w B cs ty → ∀ (k : Nat) (v : Value), p w → p (w.setCell ⟨B, k, none⟩ v)
theorem Stay.const (p : Prop) : Stay (fun _ => p) := ⟨fun _ _ _ h => h, fun _ _ _ _ _ _ _ _ _ h => h⟩
theorem Stay.and {p q : World → Prop} (h : Stay p) (g : Stay q) : Stay (fun w => p w ∧ q w) := ⟨fun w w' b x => ⟨h.below w w' b x.1, g.below w w' b x.2⟩, fun w B cs ty a b c k v x => ⟨h.store w B cs ty a b c k v x.1, g.store w B cs ty a b c k v x.2⟩⟩
theorem Stay.ex {α : Sort _} {p : α → World → Prop} (h : ∀ a, Stay (p a)) : Stay (fun w => ∃ a, p a w) := ⟨fun w w' b ⟨a, x⟩ => ⟨a, (h a).below w w' b x⟩, fun w B cs ty e b c k v ⟨a, x⟩ => ⟨a, (h a).store w B cs ty e b c k v x⟩⟩
theorem Stay.sl (A : Option Addr) (n c : Nat) (f : Nat → Int) : Stay (fun w => Sl w .u64 A n c f) := ⟨fun w w' b h => h.below b (Nat.le_refl _), fun w B cs ty a b c k v h => h.set c a⟩
theorem getD_of {xs : Array Value} {t : Nat} {v : Value} (h : xs[t]? = some v) : xs.getD t undef = v := by rw [Array.getD_eq_getD_getElem?, h]; rfl
theorem Stay.nm (A : Option Addr) (n c : Nat) (x : Int) : Stay (fun w => Nm w A n c x) := ⟨fun w w' b h => h.below b (Nat.le_refl _), fun w B cs ty a b c k v h => h.setB c b⟩

theorem nodup_inj {α β : Type _} {f : α → β} {l : List α} (h : (l.map f).Nodup) {u v : α} (hu : u ∈ l) (hv : v ∈ l) (e : f u = f v) : u = v := by
  induction l with
  | nil => cases hu
  | cons x xs ih =>
    simp only [List.map_cons, List.nodup_cons, List.mem_map, not_exists, not_and] at h
    rcases List.mem_cons.1 hu with rfl | hu'
    · rcases List.mem_cons.1 hv with rfl | hv'
      · rfl
      · exact absurd e.symm (h.1 v hv')
    · rcases List.mem_cons.1 hv with rfl | hv'
      · exact absurd e (h.1 u hu')
      · exact ih h.2 hu' hv'

def allP {α : Type _} (p : α → Prop) : List α → Prop
  | [] => True
  | b :: bs => p b ∧ allP p bs
theorem allP.mem {α : Type _} {p : α → Prop} : ∀ {bs : List α}, allP p bs → ∀ b ∈ bs, p b
  | b :: bs, h, c, hc => by
    rcases List.mem_cons.1 hc with rfl | hc
    · exact h.1
    · exact allP.mem h.2 c hc
theorem allP.of {α : Type _} {p : α → Prop} : ∀ {bs : List α}, (∀ b ∈ bs, p b) → allP p bs
  | [], _ => trivial
  | b :: bs, h => ⟨h b (by simp), allP.of (fun c hc => h c (List.mem_cons_of_mem _ hc))⟩

def depB (ops : Array Oper) (i j : Nat) : Bool := ((ops[i]?).map fun o => o.after.any fun e => Region.binds .any e && (e.on == j)).getD false
/-- the values' and the variables' numbers and slots are apart; each operation is one of them -/
def valsB (ops : Array Oper) (bs : List BoxD) (vs : List (Nat × Nat)) (n : Nat) : Bool :=
  decide ((bs.map (·.slot) ++ vs.map (·.2)).Nodup) && decide ((vs.map (·.1)).Nodup) && vs.all (fun v => decide (v.1 < ops.size) && decide (v.2 < n) && bs.all fun b => b.al != v.1 && b.st != v.1) && bs.all (fun b => decide (b.slot < n)) &&
  (List.range ops.size).all fun i => (bs.any fun b => b.al == i || b.st == i) || vs.any fun v => v.1 == i

theorem stay_setAll {p : World → Prop} (hp : Stay p) {B : Nat} {ty : TypeId} (hty : ty ≠ 3) : ∀ (l : List Value) (k : Nat) (w : World) (cs : Array Value), NoU cs → (∀ u ∈ l, ∀ x, u ≠ .int .u64 x) → Bx w B cs ty → p w → p (setAll w B k l)
  | [], _, _, _, _, _, _, h => h
  | v :: l, k, w, cs, hc, hl, hb, h => by
    refine stay_setAll hp hty l (k + 1) _ (cs.setIfInBounds k v) ?_ (fun u hu => hl u (List.mem_cons_of_mem _ hu)) (hb.set k v) (hp.store w B cs ty hc hty hb k v h)
    intro u hu x
    rw [Array.toList_setIfInBounds] at hu
    rcases List.mem_or_eq_of_mem_set hu with h1 | h1
    · exact hc u h1 x
    · rw [h1]; exact hl v (by simp) x

abbrev BoxP := BoxD × (Array Value → World → Prop)
section
variable {P : Program} {ops : Array Oper} {Q : Exit → Act → World → Prop} {S : World → Prop}

theorem wpAnyH_gen {a0 : Act} {w0 : World} (bgs : List BoxP) (vs : List ValD) (hB : boxesB ops (bgs.map (·.1)) = true) (hV : valsB ops (bgs.map (·.1)) (vs.map fun v => (v.op, v.slot)) a0.tmps.size = true)
    (hS : ∀ w, S w)
    (hsb : allP (fun b => (∀ cs, Stay (b.2 cs)) ∧ b.1.ty ≠ 3 ∧ NoU b.1.z) bgs) (hsv : allP (fun v => ∀ x, Stay (v.P x)) vs)
    (hal : allP (fun b => ∀ a w K, K (a.put (some b.1.slot) (ptrTo w.heap.size)) (w.alloc (.cells b.1.z b.1.ty)) → wpOp P ops Q b.1.al K a w) bgs)
    (hst : allP (fun b => ∀ (a : Act) (w : World) (B : Nat) K, (∀ t, ((bgs.map (·.1.slot)) ++ vs.map (·.slot)).contains t = false → a.tmps[t]? = a0.tmps[t]?) → (∀ (k : Nat) (u : ValD), vs[k]? = some u → depB ops b.1.st u.op = true → ∃ x, a.tmps[u.slot]? = some x ∧ u.P x w) →
      a.tmps[b.1.slot]? = some (ptrTo B) → Bx w B b.1.z b.1.ty → (∀ l : List Value, b.1.z.size = l.length → NoU l.toArray → b.2 l.toArray w → K a (setAll w B 0 l)) → wpOp P ops Q b.1.st K a w) bgs)
    (hval : allP (fun v => ∀ (a : Act) (w : World) K, Below w0.heap.size w0 w → (∀ t, ((bgs.map (·.1.slot)) ++ vs.map (·.slot)).contains t = false → a.tmps[t]? = a0.tmps[t]?) → (∀ (k : Nat) (u : ValD), vs[k]? = some u → depB ops v.op u.op = true → ∃ x, a.tmps[u.slot]? = some x ∧ u.P x w) →
      (∀ x w', Below w.heap.size w w' → v.P x w' → K (a.put (some v.slot) x) w') → wpOp P ops Q v.op K a w) vs)
    (hend : ∀ w (X : Nat → Value) (B : Nat → Nat), Below w0.heap.size w0 w → allP (fun v => v.P (X v.slot) w) vs → allP (fun b => w0.heap.size ≤ B b.1.slot ∧ ∃ cs, Bx w (B b.1.slot) cs b.1.ty ∧ b.2 cs w) bgs → (∀ b ∈ bgs.map (·.1), ∀ c ∈ bgs.map (·.1), b ≠ c → B b.slot ≠ B c.slot) →
      Q .normal (vs.foldl (fun a v => a.put (some v.slot) (X v.slot)) (bgs.foldl (fun a b => a.put (some b.1.slot) (ptrTo (B b.1.slot))) a0)) w) :
    wpAnyH P .any ops Q S ops.size (Array.replicate ops.size false) a0 w0 := by
  simp only [valsB, Bool.and_eq_true, decide_eq_true_eq, List.all_eq_true, List.map_map] at hV
  obtain ⟨⟨⟨⟨n1, n2⟩, n3⟩, n4⟩, n5⟩ := hV
  have v3 : ∀ v ∈ vs, v.op < ops.size ∧ v.slot < a0.tmps.size ∧ ∀ b ∈ bgs, b.1.al ≠ v.op ∧ b.1.st ≠ v.op := fun v hv => by
    have := n3 (v.op, v.slot) (List.mem_map.2 ⟨v, hv, rfl⟩)
    refine ⟨this.1.1, this.1.2, fun b hb => ?_⟩
    have h2 := this.2 b.1 (List.mem_map.2 ⟨b, hb, rfl⟩)
    simp only [bne_iff_ne, ne_eq] at h2
    exact h2
  have b4 : ∀ b ∈ bgs, b.1.slot < a0.tmps.size := fun b hb => n4 b.1 (List.mem_map.2 ⟨b, hb, rfl⟩)
  have hdisj := (List.nodup_append.1 n1)
  have hapart : ∀ b ∈ bgs, ∀ v ∈ vs, b.1.slot ≠ v.slot := fun b hb v hv => hdisj.2.2 _ (List.mem_map.2 ⟨b, hb, rfl⟩) _ (List.mem_map.2 ⟨v, hv, rfl⟩)
  have hvinj : ∀ u ∈ vs, ∀ v ∈ vs, u.slot = v.slot → u = v := fun u hu v hv e => nodup_inj (f := ValD.slot) (by have h := hdisj.2.1; exact h) hu hv e
  have hoinj : ∀ u ∈ vs, ∀ v ∈ vs, u.op = v.op → u = v := fun u hu v hv e => nodup_inj (f := ValD.op) (by have h := n2; exact h) hu hv e
  have hmem : ∀ {b : BoxD}, b ∈ bgs.map (·.1) → ∃ g, (b, g) ∈ bgs := fun {b} hb => by
    obtain ⟨x, hx, rfl⟩ := List.mem_map.1 hb
    exact ⟨x.2, hx⟩
  have hdep : ∀ {i j : Nat} {o : Oper} {listed : Array Bool}, ops[i]? = some o → (∀ e ∈ o.after, Region.binds .any e = true → listed.getD e.on false = true) → depB ops i j = true → listed.getD j false = true := fun {i j o listed} ho hp hd => by
    unfold depB at hd
    rw [ho] at hd
    simp only [Option.map_some, Option.getD_some, Array.any_eq_true'] at hd
    obtain ⟨e, he, h5⟩ := hd
    simp only [Bool.and_eq_true, beq_iff_eq] at h5
    exact h5.2 ▸ hp e he h5.1
  refine wpAnyH_boxes (bgs.map (·.1)) hB (fun listed a w => Below w0.heap.size w0 w ∧ a.tmps.size = a0.tmps.size ∧ a.defers = a0.defers ∧ (∀ t, ((bgs.map (·.1.slot)) ++ vs.map (·.slot)).contains t = false → a.tmps[t]? = a0.tmps[t]?) ∧
      ∀ v ∈ vs, listed.getD v.op false = true → ∃ x, a.tmps[v.slot]? = some x ∧ v.P x w)
    (fun b cs w => ∀ g, (b, g) ∈ bgs → g cs w) w0.heap.size (Nat.le_refl _) (by simp) (by unfold unl; exact Nat.le_trans List.countP_le_length (by simp)) ?_ (fun b hb => by obtain ⟨g, hg⟩ := hmem hb; exact b4 _ hg) ?_ ⟨Below.refl _ _, rfl, rfl, fun _ _ => rfl, fun v hv h => ?_⟩ (fun _ _ w _ => hS w) ?_ ?_ ?_ ?_ ?_
  · intro b hb
    obtain ⟨h1, h2⟩ := (boxesB_spec hB).lt b hb
    constructor <;> simp [Array.getD]
  · intro b hb cs w w' h hbl g hg
    exact ((hsb.mem _ hg).1 cs).below w w' hbl (h g hg)
  · have := (v3 v hv).1
    simp [Array.getD] at h
  · intro b hb
    obtain ⟨g, hg⟩ := hmem hb
    exact hal.mem _ hg
  · rintro b hb listed a w ⟨j1, j2, j3, j4, j5⟩ hn hi
    obtain ⟨g, hg⟩ := hmem hb
    refine ⟨j1.alloc j1.size _, by simp [Act.put, j2], j3, fun t ht => ?_, fun v hv hl => ?_⟩
    · have hne : b.slot ≠ t := fun e => by
        have hc : ((bgs.map (·.1.slot)) ++ vs.map (·.slot)).contains t = true := by
          rw [List.contains_iff_mem, List.mem_append]; left; exact List.mem_map.2 ⟨_, hg, e⟩
        rw [hc] at ht; cases ht
      show (a.tmps.setIfInBounds b.slot _)[t]? = _
      rw [Array.getElem?_setIfInBounds_ne hne]; exact j4 t ht
    · have hne := ((v3 v hv).2.2 _ hg).1
      rw [getD_set_ne false hne] at hl
      obtain ⟨x, hx, hp⟩ := j5 v hv hl
      refine ⟨x, ?_, (hsv.mem v hv x).below _ _ ((Below.refl _ _).alloc (Nat.le_refl _) _) hp⟩
      show (a.tmps.setIfInBounds b.slot _)[v.slot]? = _
      rw [Array.getElem?_setIfInBounds_ne (hapart _ hg v hv)]; exact hx
  · rintro b hb listed a w B K o ho hi hp ⟨j1, j2, j3, j4, j5⟩ hs hn hbx hK
    obtain ⟨g, hg⟩ := hmem hb
    have hsg := hsb.mem _ hg
    refine hst.mem _ hg a w B K j4 (fun k u hu hd => j5 u (List.mem_of_getElem? hu) (hdep ho hp hd)) hs hbx (fun l hl hnl hgl => ?_)
    have hf := setAll_facts (B := B) (t := b.ty) l 0 w [] b.z.toList rfl (by simpa using hl) (by simpa using hbx)
    have hstay : ∀ {p : World → Prop}, Stay p → p w → p (setAll w B 0 l) := fun hp h => stay_setAll hp hsg.2.1 l 0 w b.z hsg.2.2 (by simpa [NoU] using hnl) hbx h
    refine hK _ l.toArray (by simpa using hf.1) hf.2.1 hf.2.2.1 (fun c hc cs' hgc g' hg' => ?_) (fun g' hg' => ?_) ⟨j1.trans (hf.2.2.2 _ hn), j2, j3, j4, fun v hv hl' => ?_⟩
    · exact hstay ((hsb.mem _ hg').1 cs') (hgc g' hg')
    · have : g' = g := congrArg (fun (x : BoxP) => x.2) (nodup_inj (f := fun (x : BoxP) => x.1.slot) hdisj.1 hg' hg rfl)
      subst this
      exact hstay ((hsg.1 _)) hgl
    · have hne := ((v3 v hv).2.2 _ hg).2
      rw [getD_set_ne false hne] at hl'
      obtain ⟨x, hx, hpx⟩ := j5 v hv hl'
      exact ⟨x, hx, hstay (hsv.mem v hv x) hpx⟩
  · rintro listed a w i o ho hno hi hp ⟨j1, j2, j3, j4, j5⟩
    have hil : i < ops.size := (Array.getElem?_eq_some_iff.1 ho).1
    have h5 := n5 i (List.mem_range.2 hil)
    simp only [Bool.or_eq_true, List.any_eq_true, beq_iff_eq] at h5
    rcases h5 with ⟨b, hb, h⟩ | ⟨q, hq, rfl⟩
    · rcases h with h | h
      · exact absurd h (hno b hb).1
      · exact absurd h (hno b hb).2
    · obtain ⟨v, hv, rfl⟩ := List.mem_map.1 hq
      refine hval.mem v hv a w _ j1 j4 (fun k u hu hd => j5 u (List.mem_of_getElem? hu) (hdep ho hp hd)) (fun x w' hbl hx => ⟨⟨j1.trans (hbl.mono j1.size), by simp [Act.put, j2], j3, fun t ht => ?_, fun u hu hl => ?_⟩, hbl, fun b hb => ?_, by simp [Act.put]⟩)
      · have hne : v.slot ≠ t := fun e => by
          have hc : ((bgs.map (·.1.slot)) ++ vs.map (·.slot)).contains t = true := by
            rw [List.contains_iff_mem, List.mem_append]; right; exact List.mem_map.2 ⟨_, hv, e⟩
          rw [hc] at ht; cases ht
        show (a.tmps.setIfInBounds v.slot _)[t]? = _
        rw [Array.getElem?_setIfInBounds_ne hne]; exact j4 t ht
      · by_cases e : u = v
        · subst e
          refine ⟨x, ?_, hx⟩
          show (a.tmps.setIfInBounds u.slot x)[u.slot]? = _
          simp [j2, (v3 u hu).2.1]
        · have hne : v.op ≠ u.op := fun e' => e (hoinj u hu v hv e'.symm)
          rw [getD_set_ne false hne] at hl
          obtain ⟨y, hy, hpy⟩ := j5 u hu hl
          refine ⟨y, ?_, (hsv.mem u hu y).below _ _ hbl hpy⟩
          show (a.tmps.setIfInBounds v.slot x)[u.slot]? = _
          rw [Array.getElem?_setIfInBounds_ne (fun e' => e (hvinj u hu v hv e'.symm))]; exact hy
      · obtain ⟨g, hg⟩ := hmem hb
        show (a.tmps.setIfInBounds v.slot x)[b.slot]? = _
        rw [Array.getElem?_setIfInBounds_ne (Ne.symm (hapart _ hg v hv))]
  · rintro listed a w B hall ⟨j1, j2, j3, j4, j5⟩ hsz hb hd
    have hval' : ∀ v ∈ vs, ∃ x, a.tmps[v.slot]? = some x ∧ v.P x w := fun v hv => j5 v hv (hall _ (v3 v hv).1)
    obtain ⟨X, hX⟩ : ∃ X : Nat → Value, ∀ t, X t = (a.tmps[t]?).getD undef := ⟨_, fun _ => rfl⟩
    have hf := fold_put (bs := bgs.map (·.1)) (B := B) (a0 := a0) (fun b hb => by obtain ⟨g, hg⟩ := hmem hb; exact b4 _ hg)
    rw [List.foldl_map] at hf
    have hfv : ∀ (l : List ValD) (a1 : Act), (∀ v ∈ l, v.slot < a1.tmps.size) → (l.foldl (fun a v => a.put (some v.slot) (X v.slot)) a1).defers = a1.defers ∧ (l.foldl (fun a v => a.put (some v.slot) (X v.slot)) a1).tmps.size = a1.tmps.size ∧
        ∀ t, (l.foldl (fun a v => a.put (some v.slot) (X v.slot)) a1).tmps[t]? = if t ∈ l.map (·.slot) then some (X t) else a1.tmps[t]? := fun l => by
      induction l with
      | nil => intro a1 _; exact ⟨rfl, rfl, fun t => by simp⟩
      | cons x xs ih =>
        intro a1 h
        have hx := h x (by simp)
        have hs : (a1.put (some x.slot) (X x.slot)).tmps.size = a1.tmps.size := by simp [Act.put]
        obtain ⟨h1, h2, h3⟩ := ih (a1.put (some x.slot) (X x.slot)) (fun b hb => by rw [hs]; exact h b (List.mem_cons_of_mem _ hb))
        simp only [List.foldl_cons]
        refine ⟨h1.trans rfl, h2.trans hs, fun t => ?_⟩
        rw [h3 t, act_put_get hx]
        simp only [List.map_cons, List.mem_cons]
        by_cases e : t ∈ xs.map (·.slot)
        · simp [e]
        · by_cases e2 : x.slot = t
          · subst e2; simp [e]
          · simp [e, e2, Ne.symm e2]
    obtain ⟨f1, f2, f3⟩ := hfv vs (bgs.foldl (fun a b => a.put (some b.1.slot) (ptrTo (B b.1.slot))) a0) (fun v hv => by rw [hf.2.1]; exact (v3 v hv).2.1)
    have ha : a = vs.foldl (fun a v => a.put (some v.slot) (X v.slot)) (bgs.foldl (fun a b => a.put (some b.1.slot) (ptrTo (B b.1.slot))) a0) := by
      have ht : a.tmps = (vs.foldl (fun a v => a.put (some v.slot) (X v.slot)) (bgs.foldl (fun a b => a.put (some b.1.slot) (ptrTo (B b.1.slot))) a0)).tmps := by
        apply Array.ext_getElem?
        intro t
        rw [f3 t, hf.2.2 t]
        by_cases e : t ∈ vs.map (·.slot)
        · rw [if_pos e]
          obtain ⟨v, hv, rfl⟩ := List.mem_map.1 e
          obtain ⟨x, hx, _⟩ := hval' v hv
          rw [hX, hx]; rfl
        · rw [if_neg e]
          by_cases e2 : t ∈ (bgs.map (·.1)).map (·.slot)
          · rw [if_pos e2]
            obtain ⟨b, hbm, rfl⟩ := List.mem_map.1 e2
            exact (hb b hbm).1
          · rw [if_neg e2]
            refine j4 t ?_
            cases hc : ((bgs.map (·.1.slot)) ++ vs.map (·.slot)).contains t with
            | false => rfl
            | true =>
              rw [List.contains_iff_mem, List.mem_append] at hc
              rcases hc with h | h
              · exact absurd (by simpa [List.map_map, Function.comp] using h) e2
              · exact absurd h e
      have hdf := j3.trans (f1.trans hf.1).symm
      revert ht hdf
      generalize vs.foldl (fun a v => a.put (some v.slot) (X v.slot)) (bgs.foldl (fun a b => a.put (some b.1.slot) (ptrTo (B b.1.slot))) a0) = a1
      cases a; cases a1
      intro ht hdf
      simp only at ht hdf
      subst ht hdf
      rfl
    rw [ha]
    refine hend w X B j1 (allP.of fun v hv => ?_) (allP.of fun b hbm => ?_) hd
    · obtain ⟨x, hx, hp⟩ := hval' v hv
      rw [hX, hx]; exact hp
    · obtain ⟨_, h2, cs, h3, h4⟩ := hb b.1 (List.mem_map.2 ⟨b, hbm, rfl⟩)
      exact ⟨h2, cs, h3, h4 b.2 hbm⟩
end
end Go.Proofs.YtoikcgmdlccdbaaDoor
