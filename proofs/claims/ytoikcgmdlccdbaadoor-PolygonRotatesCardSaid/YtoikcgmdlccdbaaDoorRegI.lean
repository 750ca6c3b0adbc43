/- A region that draws its order within the body of a range over a function (and anywhere inside the wide fence): values in whatever order, then the operations that wait for all of them. -/
import Derived.Test.YtoikcgmdlccdbaaDoorRegC
import Derived.OrdersIn
import Derived.ControlIn
import Derived.TacticsIn
import Derived.RangeFuncCalls
import Derived.Scope
namespace Go.Proofs.YtoikcgmdlccdbaaDoor
set_option linter.unusedVariables false
set_option linter.unusedSimpArgs false
open Go.RowKit Wd

theorem getO_of {xs : Array Value} {t : Nat} {v : Value} (h : xs[t]? = some v) : xs[t]?.getD undef = v := by rw [h]; rfl
/-- one operation, none being let out -/
def wpOpP (P : Program) (ops : Array Oper) (Q : Exit → Act → World → Prop) (i : Nat) (K : Act → World → Prop) (a : Act) (w : World) : Prop :=
  match ops[i]? with
  | none => K a w
  | some o => if Region.wanted o (yielded ops a.tmps) then o.wp P a w K Q else K (a.put o.dst undef) w

section
variable {P : Program} {ops : Array Oper} {Q : Exit → Act → World → Prop} {n : Nat}
theorem wpOpP_step {i : Nat} {o : Oper} {K : Act → World → Prop} {a : Act} {w : World} (ho : ops[i]? = some o)
    (h : ∀ K' : Act → World → Prop, (∀ a w, K a w → K' a w) → if Region.wanted o (yielded ops a.tmps) = true then Oper.wp P o a w K' Q else K' (a.put o.dst undef) w) : wpOpP P ops Q i K a w := by
  have := h K (fun _ _ h => h)
  unfold wpOpP
  rw [ho]
  exact this

/-- the wide fence, in a round or not -/
structure WideF (F : Fence) : Prop where
  fn : ∀ f, F.fn f
  depth : F.depth = none
  calls : ∀ {P : Program} {n f : Nat} {args : Array Value} {w : World} {R : Ending → World → Prop}, Calls P f args w R → CallsIn F n P f args w R
  rows : ∀ {P : Program} {n : Nat} {row : String} {args : Array Value} {w : World} {R : Value → World → Prop}, Rows P row args w R → RowsIn F n P row args w R
theorem rowsIn_wide {n : Nat} {row : String} {args : Array Value} {w : World} {R : Value → World → Prop} (h : Rows P row args w R) : RowsIn Fence.wide n P row args w R :=
  fun c cs _ => let ⟨v, w', r, s⟩ := h c cs; ⟨v, w', r, stepsIn_wide.2 s⟩
theorem WideF.wide : WideF Fence.wide := ⟨fun _ => trivial, rfl, fun h => callsIn_wide.2 h, fun h => rowsIn_wide h⟩
theorem WideF.round (l : Nat) : WideF (Fence.wide.inRound l) := ⟨fun _ => trivial, rfl, fun h => CallsIn.inRound l (callsIn_wide.2 h), fun h => rowsIn_wide h⟩

theorem wpIn_of_wp {F : Fence} (hF : WideF F) {o : Oper} (hd : ∀ c, o.op ≠ .defer c) {a : Act} {w : World} {K : Act → World → Prop} (h : o.wp P a w K Q) : o.wpIn F n P a w K Q := by
  unfold Oper.wpIn
  refine ⟨fun f _ => hF.fn f, ?_⟩
  rw [Oper.semAt_eq _ _ _ hd]
  unfold Oper.wp at h
  generalize (execOp a.eval o).run P w = r at *
  cases r with
  | ok x w' =>
    cases x <;> simp only [Oper.upon, Oper.uponIn] at h ⊢
    all_goals first
      | exact h
      | exact ⟨fun hh => by rw [hF.depth] at hh; simp at hh, hF.rows h⟩
      | exact False.elim h
      | skip
    refine ⟨fun hh => by rw [hF.depth] at hh; simp at hh, hF.calls (Calls.mono h ?_)⟩
    intro e w'' he
    cases e <;> exact he
  | halt x w' => cases x <;> simp only [Oper.upon, Oper.uponIn] at h ⊢ <;> exact h
def noDefer (ops : Array Oper) : Bool := ops.all fun o => match o.op with | .defer _ => false | _ => true
theorem noDefer_spec (h : noDefer ops = true) {i : Nat} {o : Oper} (ho : ops[i]? = some o) : ∀ c, o.op ≠ .defer c := by
  intro c e
  unfold noDefer at h
  rw [Array.all_eq_true_iff_forall_mem] at h
  have := h o (Array.mem_of_getElem? ho)
  rw [e] at this
  cases this
theorem wpOpIn_of_P {F : Fence} (hF : WideF F) (hnd : noDefer ops = true) {i : Nat} {a : Act} {w : World} {K : Act → World → Prop} (h : wpOpP P ops Q i K a w) : wpOpIn F n P ops Q i K a w := by
  unfold wpOpP at h
  unfold wpOpIn
  cases ho : ops[i]? with
  | none => rw [ho] at h; exact h
  | some o =>
    rw [ho] at h
    show if Region.wanted o (yielded ops a.tmps) = true then _ else _
    have h' : if Region.wanted o (yielded ops a.tmps) = true then o.wp P a w K Q else K (a.put o.dst undef) w := h
    split
    · rename_i hw; rw [if_pos hw] at h'; exact wpIn_of_wp hF (noDefer_spec hnd ho) h'
    · rename_i hw; rw [if_neg hw] at h'; exact ⟨fun f _ => hF.fn f, h'⟩

theorem wpAnyIn_inv {F : Fence} {md : Region.Mode} (I : Array Bool → Act → World → Prop) (hord : ordB md ops = true)
    (hstep : ∀ (listed : Array Bool) (a : Act) (w : World) (i : Nat) (o : Oper), listed.size = ops.size → ops[i]? = some o → listed.getD i true = false → (∀ e ∈ o.after, Region.binds md e = true → listed.getD e.on false = true) →
      I listed a w → wpOpIn F n P ops Q i (I (listed.setIfInBounds i true)) a w)
    (hend : ∀ (listed : Array Bool) (a : Act) (w : World), listed.size = ops.size → (∀ i, i < ops.size → listed.getD i false = true) → I listed a w → Q .normal a w) :
    ∀ (fuel : Nat) (listed : Array Bool) (a : Act) (w : World), listed.size = ops.size → unl listed ≤ fuel → I listed a w → wpAnyIn F n P md ops Q fuel listed a w := by
  intro fuel
  induction fuel with
  | zero =>
    intro listed a w hs hu hI
    have hall := all_of_unl (l := listed) (by omega)
    refine ⟨?_, hend _ _ _ hs (fun i hi => hall i (by omega)) hI⟩
    rw [List.eq_nil_iff_forall_not_mem]
    intro i hi
    obtain ⟨h0, o, ho, _⟩ := mem_ready.1 hi
    obtain ⟨hi', he⟩ := getD_lt h0
    have := hall i hi'
    simp [Array.getD, hi', he] at this
  | succ fuel ih =>
    intro listed a w hs hu hI
    refine ⟨fun hr => hend _ _ _ hs (all_of_ready hord hs hr) hI, fun i hi => ?_⟩
    obtain ⟨h0, o, ho, hp⟩ := mem_ready.1 hi
    refine wpOpIn_mono (fun a' w' h' => ih _ a' w' (by simpa using hs) (by have := unl_set h0; omega) h') (hstep listed a w i o hs ho h0 hp hI)

/-- each operation ahead of m yields a value; whoever comes at m or behind it waits for all ahead -/
def tailB (ops : Array Oper) (m : Nat) (vs : List (Nat × Nat)) (n : Nat) : Bool :=
  ordB .any ops && noDefer ops && decide (m ≤ ops.size) && decide ((vs.map (·.2)).Nodup) && decide ((vs.map (·.1)).Nodup) && vs.all (fun v => decide (v.1 < m) && decide (v.2 < n)) &&
  ((List.range m).all fun i => vs.any fun v => v.1 == i) && (decide (m = ops.size) || (List.range m).all fun j => (List.range (m + 1)).any fun i => decide (j < i) && depB ops i j) &&
  (List.range ops.size).all fun i => decide (i ≤ m) || depB ops i (i - 1)

/-- the values of all, put in -/
theorem fold_vals {vs : List ValD} {a a0 : Act} (hvinj : ∀ u ∈ vs, ∀ v ∈ vs, u.slot = v.slot → u = v) (hlt : ∀ v ∈ vs, v.slot < a0.tmps.size) (j2 : a.tmps.size = a0.tmps.size) (j3 : a.defers = a0.defers)
    (j4 : ∀ t, (vs.map (·.slot)).contains t = false → a.tmps[t]? = a0.tmps[t]?) (hX : ∀ v ∈ vs, ∃ x, a.tmps[v.slot]? = some x) :
    a = vs.foldl (fun b v => b.put (some v.slot) ((a.tmps[v.slot]?).getD undef)) a0 := by
  have hfv : ∀ (X : Nat → Value) (l : List ValD) (a1 : Act), (∀ v ∈ l, v.slot < a1.tmps.size) → (l.foldl (fun a v => a.put (some v.slot) (X v.slot)) a1).defers = a1.defers ∧ (l.foldl (fun a v => a.put (some v.slot) (X v.slot)) a1).tmps.size = a1.tmps.size ∧
      ∀ t, (l.foldl (fun a v => a.put (some v.slot) (X v.slot)) a1).tmps[t]? = if t ∈ l.map (·.slot) then some (X t) else a1.tmps[t]? := fun X l => by
    induction l with
    | nil => intro a1 _; exact ⟨rfl, rfl, fun t => by simp⟩
    | cons x xs ih =>
      intro a1 h
      have hx := h x (by simp)
      have hs : (a1.put (some x.slot) (X x.slot)).tmps.size = a1.tmps.size := by simp [Act.put]
      obtain ⟨h1, h2, h3⟩ := ih (a1.put (some x.slot) (X x.slot)) (fun b hb => by rw [hs]; exact h b (List.mem_cons_of_mem _ hb))
      simp only [List.foldl_cons]
      refine ⟨h1.trans rfl, h2.trans hs, fun t => ?_⟩
      rw [h3 t, act_put_get hx]
      simp only [List.map_cons, List.mem_cons]
      by_cases e : t ∈ xs.map (·.slot)
      · simp [e]
      · by_cases e2 : x.slot = t
        · subst e2; simp [e]
        · simp [e, e2, Ne.symm e2]
  obtain ⟨f1, f2, f3⟩ := hfv (fun t => (a.tmps[t]?).getD undef) vs a0 hlt
  have ht : a.tmps = (vs.foldl (fun b v => b.put (some v.slot) ((a.tmps[v.slot]?).getD undef)) a0).tmps := by
    apply Array.ext_getElem?
    intro t
    rw [f3 t]
    by_cases e : t ∈ vs.map (·.slot)
    · rw [if_pos e]
      obtain ⟨v, hv, rfl⟩ := List.mem_map.1 e
      obtain ⟨x, hx⟩ := hX v hv
      rw [hx]; rfl
    · rw [if_neg e]
      refine j4 t ?_
      cases hc : (vs.map (·.slot)).contains t with
      | false => rfl
      | true => rw [List.contains_iff_mem] at hc; exact absurd hc e
  have hdf := j3.trans f1.symm
  revert ht hdf
  generalize vs.foldl (fun b v => b.put (some v.slot) ((a.tmps[v.slot]?).getD undef)) a0 = a1
  cases a; cases a1
  intro ht hdf
  simp only at ht hdf
  subst ht hdf
  rfl

/-- E: how worlds follow on each other within the region (Eq: reads alone; Below: calls) -/
theorem wpAnyIn_tail {F : Fence} (hF : WideF F) (E : World → World → Prop) (hE0 : ∀ w, E w w) (hEt : ∀ a b c, E a b → E b c → E a c) {a0 : Act} {w0 : World} (vs : List ValD) (m : Nat) (hV : tailB ops m (vs.map fun v => (v.op, v.slot)) a0.tmps.size = true)
    (hsv : allP (fun v => ∀ x w w', E w w' → v.P x w → v.P x w') vs)
    (hval : allP (fun v => ∀ (a : Act) (w : World) K, E w0 w → (∀ t, (vs.map (·.slot)).contains t = false → a.tmps[t]? = a0.tmps[t]?) → (∀ (k : Nat) (u : ValD), vs[k]? = some u → depB ops v.op u.op = true → ∃ x, a.tmps[u.slot]? = some x ∧ u.P x w) →
      (∀ x w', E w w' → v.P x w' → K (a.put (some v.slot) x) w') → wpOpP P ops Q v.op K a w) vs)
    (hend : ∀ w (X : Nat → Value), E w0 w → allP (fun v => v.P (X v.slot) w) vs →
      wpListIn F n P ops Q (ops.toList.drop m) (vs.foldl (fun a v => a.put (some v.slot) (X v.slot)) a0) w) :
    wpAnyIn F n P .any ops Q ops.size (Array.replicate ops.size false) a0 w0 := by
  simp only [tailB, Bool.and_eq_true, decide_eq_true_eq, List.all_eq_true, List.map_map, Bool.or_eq_true] at hV
  obtain ⟨⟨⟨⟨⟨⟨⟨⟨hord, hnd⟩, hm⟩, n1⟩, n2⟩, n3⟩, n4⟩, n5⟩, n6⟩ := hV
  have v3 : ∀ v ∈ vs, v.op < m ∧ v.slot < a0.tmps.size := fun v hv => n3 (v.op, v.slot) (List.mem_map.2 ⟨v, hv, rfl⟩)
  have hvinj : ∀ u ∈ vs, ∀ v ∈ vs, u.slot = v.slot → u = v := fun u hu v hv e => nodup_inj (f := ValD.slot) (by have h := n1; exact h) hu hv e
  have hoinj : ∀ u ∈ vs, ∀ v ∈ vs, u.op = v.op → u = v := fun u hu v hv e => nodup_inj (f := ValD.op) (by have h := n2; exact h) hu hv e
  have hdep : ∀ {i j : Nat} {o : Oper} {listed : Array Bool}, ops[i]? = some o → (∀ e ∈ o.after, Region.binds .any e = true → listed.getD e.on false = true) → depB ops i j = true → listed.getD j false = true := fun {i j o listed} ho hp hd => by
    unfold depB at hd
    rw [ho] at hd
    simp only [Option.map_some, Option.getD_some, Array.any_eq_true'] at hd
    obtain ⟨e, he, h5⟩ := hd
    simp only [Bool.and_eq_true, beq_iff_eq] at h5
    exact h5.2 ▸ hp e he h5.1
  have hdl : ∀ {i j : Nat}, depB ops i j = true → i < ops.size := fun {i j} hd => by
    unfold depB at hd
    cases ho : ops[i]? with
    | none => rw [ho] at hd; simp at hd
    | some o => exact (Array.getElem?_eq_some_iff.1 ho).1
  -- the operations at m and behind it, in their order
  have hops : ∀ k, k ≤ ops.size → wpOpsIn F n P ops Q (List.range' k (ops.size - k)) = wpListIn F n P ops Q (ops.toList.drop k) := fun k hk => by
    have := wpOpsIn_eq_wpListIn (F := F) (n := n) (P := P) (ops := ops) (Q := Q) (ops.toList.drop k) k (fun j => by simp)
    rwa [List.length_drop, Array.length_toList] at this
  refine wpAnyIn_inv (fun listed a w => (∀ i o, ops[i]? = some o → listed.getD i false = true → ∀ e ∈ o.after, Region.binds .any e = true → listed.getD e.on false = true) ∧
      (((∀ i, m ≤ i → listed.getD i false = false) ∧ E w0 w ∧ a.tmps.size = a0.tmps.size ∧ a.defers = a0.defers ∧ (∀ t, (vs.map (·.slot)).contains t = false → a.tmps[t]? = a0.tmps[t]?) ∧
        ∀ v ∈ vs, listed.getD v.op false = true → ∃ x, a.tmps[v.slot]? = some x ∧ v.P x w) ∨
      ∃ k, m < k ∧ k ≤ ops.size ∧ (∀ j, j < ops.size → (listed.getD j false = true ↔ j < k)) ∧ wpOpsIn F n P ops Q (List.range' k (ops.size - k)) a w)) hord ?_ ?_ ops.size _ a0 w0 (by simp) (by unfold unl; exact Nat.le_trans List.countP_le_length (by simp)) ?_
  · rintro listed a w i o hsz ho hi hp ⟨hcl, h⟩
    have hil : i < ops.size := (Array.getElem?_eq_some_iff.1 ho).1
    have hset : ∀ j, (listed.setIfInBounds i true).getD j false = true ↔ j = i ∨ listed.getD j false = true := fun j => by
      by_cases e : i = j
      · subst e; simp [Array.getD, hsz, hil]
      · rw [getD_set_ne false e]; constructor
        · exact .inr
        · rintro (h | h)
          · exact absurd h.symm e
          · exact h
    have hcl' : ∀ j o', ops[j]? = some o' → (listed.setIfInBounds i true).getD j false = true → ∀ e ∈ o'.after, Region.binds .any e = true → (listed.setIfInBounds i true).getD e.on false = true := fun j o' hj hl e he hb => by
      rcases (hset j).1 hl with rfl | h2
      · rw [ho] at hj; cases hj
        exact (hset _).2 (.inr (hp e he hb))
      · exact (hset _).2 (.inr (hcl j o' hj h2 e he hb))
    have hpi : listed.getD i false = false := getD_false_of hi
    -- the tail's next operation
    have htail : ∀ k, k ≤ ops.size → m ≤ k → i = k → (∀ j, j < ops.size → (listed.getD j false = true ↔ j < k)) → wpOpsIn F n P ops Q (List.range' k (ops.size - k)) a w →
        wpOpIn F n P ops Q i (fun a' w' => (∀ i' o, ops[i']? = some o → (listed.setIfInBounds i true).getD i' false = true → ∀ e ∈ o.after, Region.binds .any e = true → (listed.setIfInBounds i true).getD e.on false = true) ∧
          (((∀ i', m ≤ i' → (listed.setIfInBounds i true).getD i' false = false) ∧ E w0 w' ∧ a'.tmps.size = a0.tmps.size ∧ a'.defers = a0.defers ∧ (∀ t, (vs.map (·.slot)).contains t = false → a'.tmps[t]? = a0.tmps[t]?) ∧
            ∀ v ∈ vs, (listed.setIfInBounds i true).getD v.op false = true → ∃ x, a'.tmps[v.slot]? = some x ∧ v.P x w') ∨
          ∃ k, m < k ∧ k ≤ ops.size ∧ (∀ j, j < ops.size → ((listed.setIfInBounds i true).getD j false = true ↔ j < k)) ∧ wpOpsIn F n P ops Q (List.range' k (ops.size - k)) a' w')) a w := fun k hk hmk hik hlt hw => by
      subst hik
      rw [show ops.size - i = (ops.size - (i + 1)) + 1 by omega, List.range'_succ, wpOpsIn_cons] at hw
      refine wpOpIn_mono (fun a' w' h' => ⟨hcl', .inr ⟨i + 1, by omega, by omega, fun j hj => ?_, h'⟩⟩) hw
      rw [hset j, hlt j hj]; omega
    rcases h with ⟨h1, j1, j2, j3, j4, j5⟩ | ⟨k, hk1, hk2, hk3, hk4⟩
    · by_cases him : i < m
      · have h5 := n4 i (List.mem_range.2 him)
        rw [List.any_eq_true] at h5
        obtain ⟨q, hq, he⟩ := h5
        simp only [beq_iff_eq] at he
        obtain ⟨v, hv, rfl⟩ := List.mem_map.1 hq
        subst he
        refine wpOpIn_of_P hF hnd (hval.mem v hv a w _ j1 j4 (fun k u hu hd => j5 u (List.mem_of_getElem? hu) (hdep ho hp hd)) (fun x w' hbl hx => ⟨hcl', .inl ⟨fun i' hi' => ?_, hEt _ _ _ j1 hbl, by simp [Act.put, j2], j3, fun t ht => ?_, fun u hu hl => ?_⟩⟩))
        · rw [getD_set_ne false (by have := (v3 v hv).1; show v.op ≠ i'; omega)]; exact h1 i' hi'
        · have hne : v.slot ≠ t := fun e => by
            have hc : (vs.map (·.slot)).contains t = true := by
              rw [List.contains_iff_mem]; exact List.mem_map.2 ⟨_, hv, e⟩
            rw [hc] at ht; cases ht
          show (a.tmps.setIfInBounds v.slot _)[t]? = _
          rw [Array.getElem?_setIfInBounds_ne hne]; exact j4 t ht
        · by_cases e : u = v
          · subst e
            refine ⟨x, ?_, hx⟩
            show (a.tmps.setIfInBounds u.slot x)[u.slot]? = _
            simp [j2, (v3 u hu).2]
          · have hne : v.op ≠ u.op := fun e' => e (hoinj u hu v hv e'.symm)
            have hl' : listed.getD u.op false = true := by
              rcases (hset u.op).1 hl with h | h
              · exact absurd h.symm hne
              · exact h
            obtain ⟨y, hy, hpy⟩ := j5 u hu hl'
            refine ⟨y, ?_, hsv.mem u hu y _ _ hbl hpy⟩
            show (a.tmps.setIfInBounds v.slot x)[u.slot]? = _
            rw [Array.getElem?_setIfInBounds_ne (fun e' => e (hvinj u hu v hv e'.symm))]; exact hy
      · by_cases hie : i = m
        · -- all ahead of m have come up
          have hall : ∀ d j, m - j = d → j < m → listed.getD j false = true := by
            intro d
            induction d using Nat.strongRecOn with
            | _ d ih =>
              intro j hd hj
              rcases n5 with h | h
              · omega
              · have := h j (List.mem_range.2 hj)
                rw [List.any_eq_true] at this
                obtain ⟨i', hi', h2⟩ := this
                simp only [Bool.and_eq_true, decide_eq_true_eq] at h2
                have hi2 := List.mem_range.1 hi'
                by_cases e : i' = m
                · subst e
                  subst hie
                  exact hdep ho hp h2.2
                · have h3 := ih (m - i') (by omega) i' rfl (by omega)
                  obtain ⟨o', ho'⟩ : ∃ o', ops[i']? = some o' := ⟨ops[i']'(by omega), by simp⟩
                  exact hdep ho' (fun e he hb => hcl i' o' ho' h3 e he hb) h2.2
          have hX : ∀ v ∈ vs, ∃ x, a.tmps[v.slot]? = some x ∧ v.P x w := fun v hv => j5 v hv (hall _ _ rfl (v3 v hv).1)
          have hfin := fold_vals hvinj (fun v hv => (v3 v hv).2) j2 j3 j4 (fun v hv => by obtain ⟨x, hx, _⟩ := hX v hv; exact ⟨x, hx⟩)
          have := hend w (fun t => (a.tmps[t]?).getD undef) j1 (allP.of fun v hv => by obtain ⟨x, hx, hp⟩ := hX v hv; simp only [hx, Option.getD_some]; exact hp)
          rw [← hfin, ← hops m hm] at this
          refine htail m hm (Nat.le_refl _) hie (fun j hj => ?_) this
          constructor
          · intro hl
            refine Nat.lt_of_not_le fun hc => ?_
            rw [h1 j hc] at hl; cases hl
          · intro hl; exact hall _ _ rfl hl
        · exfalso
          have := n6 i (List.mem_range.2 hil)
          rcases this with h | h
          · omega
          · have := hdep ho hp h
            rw [h1 (i - 1) (by omega)] at this; cases this
    · have hik : i = k := by
        have h1 : ¬ i < k := fun h => by rw [(hk3 i hil).2 h] at hpi; cases hpi
        by_cases e : i = k
        · exact e
        · exfalso
          have := n6 i (List.mem_range.2 hil)
          rcases this with h | h
          · omega
          · have h2 := (hk3 (i - 1) (by omega)).1 (hdep ho hp h)
            omega
      exact htail k hk2 (by omega) hik hk3 hk4
  · rintro listed a w hsz hall ⟨hcl, h⟩
    rcases h with ⟨h1, j1, j2, j3, j4, j5⟩ | ⟨k, hk1, hk2, hk3, hk4⟩
    · have hms : m = ops.size := by
        rcases (by omega : m = ops.size ∨ m < ops.size) with h | h
        · exact h
        · have := hall m h
          rw [h1 m (Nat.le_refl _)] at this; cases this
      have hX : ∀ v ∈ vs, ∃ x, a.tmps[v.slot]? = some x ∧ v.P x w := fun v hv => j5 v hv (hall _ (by have := (v3 v hv).1; omega))
      have hfin := fold_vals hvinj (fun v hv => (v3 v hv).2) j2 j3 j4 (fun v hv => by obtain ⟨x, hx, _⟩ := hX v hv; exact ⟨x, hx⟩)
      have := hend w (fun t => (a.tmps[t]?).getD undef) j1 (allP.of fun v hv => by obtain ⟨x, hx, hp⟩ := hX v hv; simp only [hx, Option.getD_some]; exact hp)
      rw [← hfin, List.drop_eq_nil_of_le (by simp; omega)] at this
      exact this
    · have hke : k = ops.size := by
        rcases (by omega : k = ops.size ∨ k < ops.size) with h | h
        · exact h
        · have := (hk3 k h).1 (hall k h); omega
      rw [hke, Nat.sub_self] at hk4
      exact hk4
  · refine ⟨fun i o ho hl => ?_, (.inl ⟨fun i _ => ?_, hE0 _, rfl, rfl, fun _ _ => rfl, fun v hv h => ?_⟩)⟩
    · exfalso; revert hl; simp only [Array.getD]; split <;> simp
    · simp only [Array.getD]; split <;> simp
    · exfalso; revert h; simp only [Array.getD]; split <;> simp
/-- a scope in the body of a range over a function, no jump to its label -/
theorem stepR_scope {b : Frame} {a : Act} {k : List Item} {cs : List Frame} {w : World} {c : Code} : step P (lone (b.atR a (.code (.scope c) :: k)) cs w) = .next (lone (b.atR a (.code c :: .inScope c :: k)) cs w) :=
  step_lone_go (by simp [stepG, stepG.exec, Frame.atR])
theorem stepR_inScope {b : Frame} {a : Act} {k : List Item} {cs : List Frame} {w : World} {c : Code} : step P (lone (b.atR a (.inScope c :: k)) cs w) = .next (lone (b.atR a k) cs w) :=
  step_lone_go (by simp [stepG, stepG.exec, Frame.atR])
theorem wpIn_scope_straight {F : Fence} {a : Act} {w : World} {c : Code} (h : c.wpIn F n P (Exit.noGoto Q) a w) : (Code.scope c).wpIn F n P Q a w := by
  intro b k cs hro hb hr
  have h0 : (lone (b.atR a (.code (.scope c) :: k)) cs w).fenced P F := fenced_calm hb hr rfl
  obtain ⟨e, a₁, w₁, hq, harr⟩ := h b (.inScope c :: k) cs hro hb hr
  cases e with
  | normal => exact ⟨.normal, a₁, w₁, hq, .head h0 stepR_scope (StepsIn.trans harr (.one (fenced_calm hb hr rfl) stepR_inScope))⟩
  | exit id => exact ⟨.exit id, a₁, w₁, hq, fun k' hk => .head h0 stepR_scope (harr.1 k' (by simp [exitTo, hk])), fun hr' hk => let ⟨k₁, h1, h2⟩ := harr.2 hr' (by simp [exitTo, hk]); ⟨k₁, h1, .head h0 stepR_scope h2⟩⟩
  | goto l => exact hq.elim
  | ret => exact ⟨_, a₁, w₁, hq, .of_steps (.one h0 stepR_scope) harr⟩
  | panic ch => exact ⟨_, a₁, w₁, hq, .of_steps (.one h0 stepR_scope) harr⟩
  | outgrown => exact ⟨_, a₁, w₁, hq, .of_steps (.one h0 stepR_scope) harr⟩
end
end Go.Proofs.YtoikcgmdlccdbaaDoor
