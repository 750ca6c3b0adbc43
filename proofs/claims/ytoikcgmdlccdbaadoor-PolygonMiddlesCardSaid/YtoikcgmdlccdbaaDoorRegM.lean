/- A region that draws its order, of operations that yield known values and of stores into one variable: whatever the order. -/
import Derived.Test.YtoikcgmdlccdbaaDoorRegC
namespace Go.Proofs.YtoikcgmdlccdbaaDoor
set_option linter.unusedVariables false
set_option linter.unusedSimpArgs false
open Go.RowKit Wd

/-- an operation that yields a known value -/
structure CstD where
  op : Nat
  slot : Nat
  v : Value
/-- a store into the variable's cells k, k+1 .. -/
structure StD where
  op : Nat
  k : Nat
  l : List Value
def setL : Array Value → Nat → List Value → Array Value
  | cs, _, [] => cs
  | cs, k, v :: l => setL (cs.setIfInBounds k v) (k + 1) l
theorem setL_size : ∀ (l : List Value) (cs : Array Value) (k : Nat), (setL cs k l).size = cs.size
  | [], _, _ => rfl
  | v :: l, cs, k => by rw [setL, setL_size l]; simp
theorem setAll_bx {B : Nat} {t : TypeId} : ∀ (l : List Value) (k : Nat) (w : World) (cs : Array Value), Bx w B cs t → Bx (setAll w B k l) B (setL cs k l) t
  | [], _, _, _, h => h
  | v :: l, k, w, cs, h => setAll_bx l (k + 1) _ _ (h.set k v)
theorem setAll_below {B n : Nat} (hn : n ≤ B) : ∀ (l : List Value) (k : Nat) (w : World), Below n w (setAll w B k l)
  | [], _, w => Below.refl _ _
  | v :: l, k, w => ((Below.refl n w).setCell (p := ⟨B, k, none⟩) hn v).trans (setAll_below hn l (k + 1) _)
theorem Bx.some {w : World} {b : Nat} {cs : Array Value} {t : TypeId} (h : Bx w b cs t) {i : Nat} (hi : i < cs.size) : ∃ v, w.cell? ⟨b, i, none⟩ = some v := ⟨cs[i], h.cell i (by simp [hi])⟩
def fin_ (sts : List StD) (cs0 : Array Value) : Array Value := sts.foldl (fun cs s => setL cs s.k s.l) cs0
theorem fin_size (sts : List StD) : ∀ cs0, (fin_ sts cs0).size = cs0.size := by
  induction sts with
  | nil => intro _; rfl
  | cons s sts ih => intro cs0; show (fin_ sts (setL cs0 s.k s.l)).size = _; rw [ih, setL_size]
def chainB (ops : Array Oper) : List Nat → Bool
  | a :: b :: r => depB ops b a && chainB ops (b :: r)
  | _ => true
theorem chainB_spec {ops : Array Oper} : ∀ (l : List Nat), chainB ops l = true → ∀ t a b, l[t]? = some a → l[t + 1]? = some b → depB ops b a = true
  | a :: b :: r, h, 0, x, y, hx, hy => by
    simp only [chainB, Bool.and_eq_true] at h
    simp only [List.getElem?_cons_zero, Option.some.injEq, List.getElem?_cons_succ] at hx hy
    subst hx hy; exact h.1
  | a :: b :: r, h, t + 1, x, y, hx, hy => by
    simp only [chainB, Bool.and_eq_true] at h
    exact chainB_spec (b :: r) h.2 t x y (by simpa using hx) (by simpa using hy)
  | [_], _, t, _, _, _, hy => by simp at hy
  | [], _, t, _, _, hx, _ => by simp at hx
/-- each operation is a value or a store, the values' slots and all numbers are apart -/
def valsM (ops : Array Oper) (ss : List Nat) (vs : List (Nat × Nat)) (n : Nat) : Bool :=
  ordB .any ops && decide ((vs.map (·.2)).Nodup) && decide ((vs.map (·.1)).Nodup) && decide (ss.Nodup) && chainB ops ss && vs.all (fun v => decide (v.1 < ops.size) && decide (v.2 < n) && ss.all fun s => s != v.1) && ss.all (fun s => decide (s < ops.size)) &&
  (List.range ops.size).all fun i => ss.contains i || vs.any fun v => v.1 == i

section
variable {P : Program} {ops : Array Oper} {Q : Exit → Act → World → Prop} {S : World → Prop}
theorem wpAnyH_genM {a0 : Act} {w0 : World} (n0 M : Nat) (ty : TypeId) (cs0 : Array Value) (sts : List StD) (vs : List CstD) (hV : valsM ops (sts.map (·.op)) (vs.map fun v => (v.op, v.slot)) a0.tmps.size = true)
    (hS : ∀ w, S w) (hn : n0 ≤ M) (hbx : Bx w0 M cs0 ty)
    (hval : allP (fun v => ∀ (a : Act) (w : World) (K : Act → World → Prop), Below n0 w0 w → (∀ t, (vs.map (·.slot)).contains t = false → a.tmps[t]? = a0.tmps[t]?) → (∀ (k : Nat) (u : CstD), vs[k]? = some u → depB ops v.op u.op = true → a.tmps[u.slot]? = some u.v) →
      ((∀ s0, sts[0]? = some s0 → depB ops s0.op v.op = true) → Bx w M cs0 ty) → K (a.put (some v.slot) v.v) w → wpOp P ops Q v.op K a w) vs)
    (hst : allP (fun s => ∀ (a : Act) (w : World) (cs : Array Value) (K : Act → World → Prop), Below n0 w0 w → (∀ t, (vs.map (·.slot)).contains t = false → a.tmps[t]? = a0.tmps[t]?) → (∀ (k : Nat) (u : CstD), vs[k]? = some u → depB ops s.op u.op = true → a.tmps[u.slot]? = some u.v) →
      Bx w M cs ty → cs.size = cs0.size → K a (setAll w M s.k s.l) → wpOp P ops Q s.op K a w) sts)
    (hend : ∀ w, Below n0 w0 w → Bx w M (fin_ sts cs0) ty → Q .normal (vs.foldl (fun a v => a.put (some v.slot) v.v) a0) w) :
    wpAnyH P .any ops Q S ops.size (Array.replicate ops.size false) a0 w0 := by
  simp only [valsM, Bool.and_eq_true, decide_eq_true_eq, List.all_eq_true, List.map_map] at hV
  obtain ⟨⟨⟨⟨⟨⟨⟨hord, n1⟩, n2⟩, n3⟩, n4⟩, n5⟩, n6⟩, n7⟩ := hV
  have v5 : ∀ v ∈ vs, v.op < ops.size ∧ v.slot < a0.tmps.size ∧ ∀ s ∈ sts, s.op ≠ v.op := fun v hv => by
    have := n5 (v.op, v.slot) (List.mem_map.2 ⟨v, hv, rfl⟩)
    refine ⟨this.1.1, this.1.2, fun s hs => ?_⟩
    have h2 := this.2 s.op (List.mem_map.2 ⟨s, hs, rfl⟩)
    simpa using h2
  have hvinj : ∀ u ∈ vs, ∀ v ∈ vs, u.slot = v.slot → u = v := fun u hu v hv e => nodup_inj (f := CstD.slot) (by have h := n1; exact h) hu hv e
  have hoinj : ∀ u ∈ vs, ∀ v ∈ vs, u.op = v.op → u = v := fun u hu v hv e => nodup_inj (f := CstD.op) (by have h := n2; exact h) hu hv e
  have hdep : ∀ {i j : Nat} {o : Oper} {listed : Array Bool}, ops[i]? = some o → (∀ e ∈ o.after, Region.binds .any e = true → listed.getD e.on false = true) → depB ops i j = true → listed.getD j false = true := fun {i j o listed} ho hp hd => by
    unfold depB at hd
    rw [ho] at hd
    simp only [Option.map_some, Option.getD_some, Array.any_eq_true'] at hd
    obtain ⟨e, he, h5⟩ := hd
    simp only [Bool.and_eq_true, beq_iff_eq] at h5
    exact h5.2 ▸ hp e he h5.1
  refine wpAnyH_inv (fun listed a w => Below n0 w0 w ∧ a.tmps.size = a0.tmps.size ∧ a.defers = a0.defers ∧ (∀ t, (vs.map (·.slot)).contains t = false → a.tmps[t]? = a0.tmps[t]?) ∧ (∀ v ∈ vs, listed.getD v.op false = true → a.tmps[v.slot]? = some v.v) ∧
      ∃ j, j ≤ sts.length ∧ (∀ t s, sts[t]? = some s → (listed.getD s.op false = true ↔ t < j)) ∧ (0 < j → ∀ s0, sts[0]? = some s0 → ∀ v ∈ vs, depB ops s0.op v.op = true → listed.getD v.op false = true) ∧ Bx w M (fin_ (sts.take j) cs0) ty)
    hord (fun _ _ w _ => hS w) ?_ ?_ ops.size _ a0 w0 (by simp) (by unfold unl; exact Nat.le_trans List.countP_le_length (by simp)) ⟨Below.refl _ _, rfl, rfl, fun _ _ => rfl, fun v hv h => ?_, 0, Nat.zero_le _, fun t s hs => ?_, fun h => absurd h (by omega), by simpa [fin_] using hbx⟩
  · rintro listed a w i o hsz ho hi hp ⟨j1, j2, j3, j4, j5, j, i1, i2, i3, i4⟩
    have hil : i < ops.size := (Array.getElem?_eq_some_iff.1 ho).1
    have h7 := n7 i (List.mem_range.2 hil)
    simp only [Bool.or_eq_true, List.any_eq_true, beq_iff_eq, List.contains_iff_mem] at h7
    rcases h7 with h | ⟨q, hq, rfl⟩
    · obtain ⟨s, hs, rfl⟩ := List.mem_map.1 h
      obtain ⟨t, ht⟩ := List.getElem?_of_mem hs
      have htj : t = j := by
        have h1 : ¬ t < j := fun h => by
          have := (i2 t s ht).2 h
          rw [getD_false_of hi] at this; cases this
        have h2 : t ≤ j := by
          cases t with
          | zero => omega
          | succ t =>
            have hlt : t < sts.length := by have := (List.getElem?_eq_some_iff.1 ht).1; omega
            obtain ⟨s', hs'⟩ : ∃ s', sts[t]? = some s' := ⟨sts[t], by simp [hlt]⟩
            have hc := chainB_spec _ n4 t s'.op s.op (by simp [hs']) (by simp [ht])
            have := (i2 t s' hs').1 (hdep ho hp hc)
            omega
        omega
      subst htj
      have hlen : t < sts.length := (List.getElem?_eq_some_iff.1 ht).1
      refine hst.mem s hs a w _ _ j1 j4 (fun k u hu hd => j5 u (List.mem_of_getElem? hu) (hdep ho hp hd)) i4 (fin_size _ _) ⟨j1.trans (setAll_below hn _ _ _), j2, j3, j4, fun v hv hl => ?_, t + 1, by omega, fun t' s' hs' => ?_, fun _ s0 hs0 v hv hd => ?_, ?_⟩
      · have hne := (v5 v hv).2.2 s hs
        rw [getD_set_ne false hne] at hl
        exact j5 v hv hl
      · by_cases e : t' = t
        · subst e
          rw [ht] at hs'; cases hs'
          exact ⟨fun _ => by omega, fun _ => getD_set_self hi⟩
        · have hne : s.op ≠ s'.op := fun e' => e (by
            have h1 : (sts.map (·.op))[t]? = some s.op := by simp [ht]
            have h2 : (sts.map (·.op))[t']? = some s.op := by simp [hs', e']
            have hl1 : t < (sts.map (·.op)).length := (List.getElem?_eq_some_iff.1 h1).1
            exact ((List.getElem?_inj hl1 n3).1 (h1.trans h2.symm)).symm)
          rw [getD_set_ne false hne, i2 t' s' hs']
          omega
      · have hne := (v5 v hv).2.2 s hs
        rw [getD_set_ne false hne]
        by_cases h0 : t = 0
        · subst h0
          rw [ht] at hs0; cases hs0
          exact hdep ho hp hd
        · exact i3 (by omega) s0 hs0 v hv hd
      · have e : sts.take (t + 1) = sts.take t ++ [s] := by
          rw [List.take_add_one, ht]; rfl
        rw [e]
        show Bx _ M (fin_ (sts.take t ++ [s]) cs0) ty
        unfold fin_
        rw [List.foldl_append]
        exact setAll_bx _ _ _ _ i4
    · obtain ⟨v, hv, rfl⟩ := List.mem_map.1 hq
      refine hval.mem v hv a w _ j1 j4 (fun k u hu hd => j5 u (List.mem_of_getElem? hu) (hdep ho hp hd)) (fun h0 => ?_) ⟨j1, by simp [Act.put, j2], j3, fun t ht => ?_, fun u hu hl => ?_, j, i1, fun t s hs => ?_, fun h s0 hs0 u hu hd => ?_, i4⟩
      · have hj : j = 0 := by
          by_cases hj : 0 < j
          · exfalso
            have hlen : 0 < sts.length := by omega
            obtain ⟨s0, hs0⟩ : ∃ s0, sts[0]? = some s0 := ⟨sts[0], by simp [hlen]⟩
            have := i3 hj s0 hs0 v hv (h0 s0 hs0)
            rw [getD_false_of hi] at this; cases this
          · omega
        subst hj
        simpa [fin_] using i4
      · have hne : v.slot ≠ t := fun e => by
          have hc : (vs.map (·.slot)).contains t = true := by
            rw [List.contains_iff_mem]; exact List.mem_map.2 ⟨_, hv, e⟩
          rw [hc] at ht; cases ht
        show (a.tmps.setIfInBounds v.slot _)[t]? = _
        rw [Array.getElem?_setIfInBounds_ne hne]; exact j4 t ht
      · by_cases e : u = v
        · subst e
          show (a.tmps.setIfInBounds u.slot u.v)[u.slot]? = _
          simp [j2, (v5 u hu).2.1]
        · have hne : v.op ≠ u.op := fun e' => e (hoinj u hu v hv e'.symm)
          rw [getD_set_ne false hne] at hl
          show (a.tmps.setIfInBounds v.slot v.v)[u.slot]? = _
          rw [Array.getElem?_setIfInBounds_ne (fun e' => e (hvinj u hu v hv e'.symm))]; exact j5 u hu hl
      · have hne := (v5 v hv).2.2 s (List.mem_of_getElem? hs)
        rw [getD_set_ne false (Ne.symm hne)]; exact i2 t s hs
      · by_cases e : u = v
        · subst e; exact getD_set_self hi
        · have hne : v.op ≠ u.op := fun e' => e (hoinj u hu v hv e'.symm)
          rw [getD_set_ne false hne]; exact i3 h s0 hs0 u hu hd
  · rintro listed a w hall ⟨j1, j2, j3, j4, j5, j, i1, i2, i3, i4⟩
    have hj : j = sts.length := by
      by_cases h : j < sts.length
      · exfalso
        have := (i2 j sts[j] (by simp [h])).1 (hall _ (n6 _ (List.mem_map.2 ⟨sts[j], List.getElem_mem _, rfl⟩)))
        omega
      · omega
    subst hj
    rw [List.take_length] at i4
    have hfv : ∀ (l : List CstD) (a1 : Act), (∀ v ∈ l, v.slot < a1.tmps.size) → (∀ u ∈ l, ∀ v ∈ l, u.slot = v.slot → u = v) → (l.foldl (fun a v => a.put (some v.slot) v.v) a1).defers = a1.defers ∧ (l.foldl (fun a v => a.put (some v.slot) v.v) a1).tmps.size = a1.tmps.size ∧
        (∀ v ∈ l, (l.foldl (fun a v => a.put (some v.slot) v.v) a1).tmps[v.slot]? = some v.v) ∧ ∀ t, (∀ v ∈ l, v.slot ≠ t) → (l.foldl (fun a v => a.put (some v.slot) v.v) a1).tmps[t]? = a1.tmps[t]? := fun l => by
      induction l with
      | nil => intro a1 _ _; exact ⟨rfl, rfl, (fun _ h => by cases h), fun t _ => rfl⟩
      | cons x xs ih =>
        intro a1 h hinj
        have hx := h x (by simp)
        have hs : (a1.put (some x.slot) x.v).tmps.size = a1.tmps.size := by simp [Act.put]
        obtain ⟨h1, h2, h3, h4⟩ := ih (a1.put (some x.slot) x.v) (fun b hb => by rw [hs]; exact h b (List.mem_cons_of_mem _ hb)) (fun u hu v hv => hinj u (List.mem_cons_of_mem _ hu) v (List.mem_cons_of_mem _ hv))
        simp only [List.foldl_cons]
        refine ⟨h1.trans rfl, h2.trans hs, fun v hv => ?_, fun t ht => ?_⟩
        · by_cases hm : v ∈ xs
          · exact h3 v hm
          · have e : v = x := (List.mem_cons.1 hv).resolve_right hm
            subst e
            rw [h4 v.slot (fun u hu e' => hm (by have := hinj u (List.mem_cons_of_mem _ hu) v hv e'; exact this ▸ hu)), act_put_get hx, if_pos rfl]
        · rw [h4 t (fun v hv => ht v (List.mem_cons_of_mem _ hv)), act_put_get hx, if_neg (ht x (by simp))]
    obtain ⟨f1, f2, f3, f4⟩ := hfv vs a0 (fun v hv => (v5 v hv).2.1) hvinj
    have ha : a = vs.foldl (fun a v => a.put (some v.slot) v.v) a0 := by
      have ht : a.tmps = (vs.foldl (fun a v => a.put (some v.slot) v.v) a0).tmps := by
        apply Array.ext_getElem?
        intro t
        by_cases e : t ∈ vs.map (·.slot)
        · obtain ⟨v, hv, rfl⟩ := List.mem_map.1 e
          rw [f3 v hv, j5 v hv (hall _ (v5 v hv).1)]
        · rw [f4 t (fun v hv h => e (List.mem_map.2 ⟨v, hv, h⟩))]
          refine j4 t ?_
          cases hc : (vs.map (·.slot)).contains t with
          | false => rfl
          | true => rw [List.contains_iff_mem] at hc; exact absurd hc e
      have hdf := j3.trans f1.symm
      revert ht hdf
      generalize vs.foldl (fun a v => a.put (some v.slot) v.v) a0 = a1
      cases a; cases a1
      intro ht hdf
      simp only at ht hdf
      subst ht hdf
      rfl
    rw [ha]
    exact hend w j1 i4
  · have := (v5 v hv).1
    simp [Array.getD] at h
  · have := n6 s.op (List.mem_map.2 ⟨s, List.mem_of_getElem? hs, rfl⟩)
    simp [Array.getD]
end
end Go.Proofs.YtoikcgmdlccdbaaDoor
