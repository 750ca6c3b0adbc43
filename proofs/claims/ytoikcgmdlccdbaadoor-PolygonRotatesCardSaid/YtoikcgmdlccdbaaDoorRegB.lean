/- A region that draws its order and makes variables: whatever the order, each variable lies in a box of its own with its value. -/
import Derived.Test.YtoikcgmdlccdbaaDoorReg
import Derived.Test.YtoikcgmdlccdbaaDoorBox
namespace Go.Proofs.YtoikcgmdlccdbaaDoor
set_option linter.unusedVariables false
set_option linter.unusedSimpArgs false
open Go.RowKit

/-- a variable that a region makes: the operation that allocates it, the one that stores into it, its slot, its type, its zero cells -/
structure BoxD where
  al : Nat
  st : Nat
  slot : Nat
  ty : TypeId
  z : Array Value
  v : List Value

theorem act_put_get {a : Act} {t s : Nat} {v : Value} (h : s < a.tmps.size) : (a.put (some s) v).tmps[t]? = if s = t then some v else a.tmps[t]? := by
  show (a.tmps.setIfInBounds s v)[t]? = _
  rw [Array.getElem?_setIfInBounds]
  by_cases e : s = t
  · subst e; simp [h]
  · simp [e]

/-- the distinctness of a list of boxes, as a Bool -/
def boxesB (ops : Array Oper) (bs : List BoxD) : Bool :=
  ordB .any ops && decide ((bs.map (·.slot)).Nodup) && decide ((bs.map (·.al) ++ bs.map (·.st)).Nodup) && bs.all (fun b => decide (b.al < ops.size) && decide (b.st < ops.size) && ((ops[b.st]?).map fun o => o.after.any fun e => Region.binds .any e && (e.on == b.al)).getD false)

structure BoxSpec (ops : Array Oper) (bs : List BoxD) : Prop where
  ord : ordB .any ops = true
  slots : (bs.map (·.slot)).Nodup
  nums : (bs.map (·.al) ++ bs.map (·.st)).Nodup
  lt : ∀ b ∈ bs, b.al < ops.size ∧ b.st < ops.size
  pre : ∀ b ∈ bs, ∀ o, ops[b.st]? = some o → ∃ e ∈ o.after, Region.binds .any e = true ∧ e.on = b.al
theorem boxesB_spec {ops : Array Oper} {bs : List BoxD} (h : boxesB ops bs = true) : BoxSpec ops bs := by
  unfold boxesB at h
  simp only [Bool.and_eq_true, decide_eq_true_eq, List.all_eq_true] at h
  obtain ⟨⟨⟨h1, h2⟩, h3⟩, h4⟩ := h
  refine ⟨h1, h2, h3, fun b hb => ⟨(h4 b hb).1.1, (h4 b hb).1.2⟩, fun b hb o ho => ?_⟩
  have := (h4 b hb).2
  rw [ho] at this
  simp only [Option.map_some, Option.getD_some, Array.any_eq_true'] at this
  obtain ⟨e, he, h5⟩ := this
  simp only [Bool.and_eq_true, beq_iff_eq] at h5
  exact ⟨e, he, h5.1, h5.2⟩

theorem slot_ne {bs : List BoxD} (h : (bs.map (·.slot)).Nodup) {b c : BoxD} (hb : b ∈ bs) (hc : c ∈ bs) (hne : b ≠ c) : b.slot ≠ c.slot := by
  intro e
  induction bs with
  | nil => cases hb
  | cons x xs ih =>
    simp only [List.map_cons, List.nodup_cons, List.mem_map, not_exists, not_and] at h
    rcases List.mem_cons.1 hb with rfl | hb'
    · rcases List.mem_cons.1 hc with rfl | hc'
      · exact hne rfl
      · exact h.1 c hc' e.symm
    · rcases List.mem_cons.1 hc with rfl | hc'
      · exact h.1 b hb' e
      · exact ih h.2 hb' hc'
theorem al_ne {bs : List BoxD} (h : (bs.map (·.al) ++ bs.map (·.st)).Nodup) {b c : BoxD} (hb : b ∈ bs) (hc : c ∈ bs) : b.al ≠ c.st :=
  fun e => (List.nodup_append.1 h).2.2 _ (List.mem_map.2 ⟨b, hb, rfl⟩) _ (List.mem_map.2 ⟨c, hc, rfl⟩) e
theorem al_inj {bs : List BoxD} {f : BoxD → Nat} (h : (bs.map f).Nodup) {b c : BoxD} (hb : b ∈ bs) (hc : c ∈ bs) (e : f b = f c) : b = c := by
  induction bs with
  | nil => cases hb
  | cons x xs ih =>
    simp only [List.map_cons, List.nodup_cons, List.mem_map, not_exists, not_and] at h
    rcases List.mem_cons.1 hb with rfl | hb'
    · rcases List.mem_cons.1 hc with rfl | hc'
      · rfl
      · exact absurd e.symm (h.1 c hc')
    · rcases List.mem_cons.1 hc with rfl | hc'
      · exact absurd e (h.1 b hb')
      · exact ih h.2 hb' hc'

def ptrTo (b : Nat) : Value := .pointer (some ⟨b, 0, none⟩)

/-- what holds of the boxes when the operations 'listed' have come up -/
def Boxes (bs : List BoxD) (G : BoxD → Array Value → World → Prop) (n0 : Nat) (listed : Array Bool) (a : Act) (w : World) : Prop :=
  ∃ B : Nat → Nat,
    (∀ b ∈ bs, listed.getD b.al false = true → a.tmps[b.slot]? = some (ptrTo (B b.slot)) ∧ n0 ≤ B b.slot ∧ ∃ cs, Bx w (B b.slot) cs b.ty ∧ (listed.getD b.st false = false → cs = b.z) ∧ (listed.getD b.st false = true → G b cs w)) ∧
    (∀ b ∈ bs, ∀ c ∈ bs, listed.getD b.al false = true → listed.getD c.al false = true → b ≠ c → B b.slot ≠ B c.slot)

theorem getD_set_self {l : Array Bool} {i : Nat} (h : l.getD i true = false) : (l.setIfInBounds i true).getD i false = true := by
  obtain ⟨hi, _⟩ := getD_lt h
  simp [Array.getD, hi]
theorem getD_false_of {l : Array Bool} {i : Nat} (h : l.getD i true = false) : l.getD i false = false := by
  obtain ⟨hi, he⟩ := getD_lt h
  simp [Array.getD, hi, he]

section
variable {P : Program} {ops : Array Oper} {Q : Exit → Act → World → Prop} {S : World → Prop}

/-- THE RULE: J speaks of the other operations; G of what a box holds when its store has come up. From any state on in which no box has come up. -/
theorem wpAnyH_boxes {a0 : Act} {w0 : World} {listed0 : Array Bool} {fuel : Nat} (bs : List BoxD) (hB : boxesB ops bs = true)
    (J : Array Bool → Act → World → Prop) (G : BoxD → Array Value → World → Prop) (n0 : Nat) (hn0 : n0 ≤ w0.heap.size) (hls : listed0.size = ops.size) (hfu : unl listed0 ≤ fuel)
    (hl0 : ∀ b ∈ bs, listed0.getD b.al false = false ∧ listed0.getD b.st false = false)
    (hsl : ∀ b ∈ bs, b.slot < a0.tmps.size)
    (hG : ∀ b ∈ bs, ∀ cs w w', G b cs w → Below w.heap.size w w' → G b cs w')
    (h0 : J listed0 a0 w0) (hJS : ∀ listed a w, J listed a w → S w)
    (hal : ∀ b ∈ bs, ∀ a w K, K (a.put (some b.slot) (ptrTo w.heap.size)) (w.alloc (.cells b.z b.ty)) → wpOp P ops Q b.al K a w)
    (hJal : ∀ b ∈ bs, ∀ listed a w, J listed a w → n0 ≤ w.heap.size → listed.getD b.al true = false → J (listed.setIfInBounds b.al true) (a.put (some b.slot) (ptrTo w.heap.size)) (w.alloc (.cells b.z b.ty)))
    (hst : ∀ b ∈ bs, ∀ listed a w B K o, ops[b.st]? = some o → listed.getD b.st true = false → (∀ e ∈ o.after, Region.binds .any e = true → listed.getD e.on false = true) → J listed a w → a.tmps[b.slot]? = some (ptrTo B) → n0 ≤ B → Bx w B b.z b.ty →
      (∀ w' cs, Bx w' B cs b.ty → (∀ c, c ≠ B → w'.heap[c]? = w.heap[c]?) → w'.heap.size = w.heap.size → (∀ c ∈ bs, ∀ cs', G c cs' w → G c cs' w') → G b cs w' → J (listed.setIfInBounds b.st true) a w' → K a w') → wpOp P ops Q b.st K a w)
    (hot : ∀ (listed : Array Bool) a w i o, ops[i]? = some o → (∀ b ∈ bs, b.al ≠ i ∧ b.st ≠ i) → listed.getD i true = false → (∀ e ∈ o.after, Region.binds .any e = true → listed.getD e.on false = true) → J listed a w →
      wpOp P ops Q i (fun a' w' => J (listed.setIfInBounds i true) a' w' ∧ Below w.heap.size w w' ∧ (∀ b ∈ bs, a'.tmps[b.slot]? = a.tmps[b.slot]?) ∧ a'.tmps.size = a.tmps.size) a w)
    (hend : ∀ (listed : Array Bool) a w (B : Nat → Nat), (∀ i, i < ops.size → listed.getD i false = true) → J listed a w → a.tmps.size = a0.tmps.size → (∀ b ∈ bs, a.tmps[b.slot]? = some (ptrTo (B b.slot)) ∧ n0 ≤ B b.slot ∧ ∃ cs, Bx w (B b.slot) cs b.ty ∧ G b cs w) → (∀ b ∈ bs, ∀ c ∈ bs, b ≠ c → B b.slot ≠ B c.slot) → Q .normal a w) :
    wpAnyH P .any ops Q S fuel listed0 a0 w0 := by
  have sp := boxesB_spec hB
  have hst1 : (bs.map (·.al)).Nodup := (List.nodup_append.1 sp.nums).1
  have hst2 : (bs.map (·.st)).Nodup := (List.nodup_append.1 sp.nums).2.1
  refine wpAnyH_inv (fun listed a w => J listed a w ∧ a.tmps.size = a0.tmps.size ∧ Boxes bs G n0 listed a w ∧ n0 ≤ w.heap.size ∧ ((∀ b ∈ bs, listed.getD b.st false = true → listed.getD b.al false = true))) sp.ord (fun _ _ _ h => hJS _ _ _ h.1)
    ?_ ?_ fuel listed0 a0 w0 hls hfu ⟨h0, rfl, ⟨fun _ => 0, fun b hb h => ?_, fun b hb c hc h => ?_⟩, hn0, fun b hb h => ?_⟩
  rotate_left 2
  · rw [(hl0 b hb).1] at h; cases h
  · rw [(hl0 b hb).1] at h; cases h
  · rw [(hl0 b hb).2] at h; cases h
  · rintro listed a w i o hs ho hi hp ⟨hJ, hsz, ⟨B, hb1, hb2⟩, hn, hsa⟩
    by_cases hA : ∃ b ∈ bs, b.al = i
    · obtain ⟨b, hb, rfl⟩ := hA
      refine hal b hb a w _ ⟨hJal b hb listed a w hJ hn hi, ?_, ⟨fun s => if s = b.slot then w.heap.size else B s, ?_, ?_⟩, ?_, ?_⟩
      · simp [Act.put, hsz]
      · intro c hc hl
        have hb' : b.slot < a.tmps.size := by rw [hsz]; exact hsl b hb
        rw [act_put_get hb']
        by_cases e : b = c
        · subst e
          refine ⟨by simp, by simpa using hn, b.z, by simpa using Bx.new w b.z b.ty, fun _ => rfl, fun h => ?_⟩
          rw [getD_set_ne false (al_ne sp.nums hb hb)] at h
          have := hsa b hb h
          rw [getD_false_of hi] at this; cases this
        · have hne := slot_ne sp.slots hb hc e
          rw [getD_set_ne false (fun e' => e (al_inj hst1 hb hc e'))] at hl
          obtain ⟨h1, h2, cs, h3, h4, h5⟩ := hb1 c hc hl
          rw [getD_set_ne false (al_ne sp.nums hb hc)]
          refine ⟨by simp only [if_neg hne, if_neg (Ne.symm hne)]; exact h1, by simp only [if_neg (Ne.symm hne)]; exact h2, cs, by simp only [if_neg (Ne.symm hne)]; exact h3.alloc _, h4, fun h => hG c hc cs _ _ (h5 h) ((Below.refl _ _).alloc (Nat.le_refl _) _)⟩
      · intro c hc d hd hlc hld hcd
        have key : ∀ c ∈ bs, c ≠ b → (listed.setIfInBounds b.al true).getD c.al false = true → B c.slot < w.heap.size := fun c hc hne hl => by
          rw [getD_set_ne false (fun e' => hne (al_inj hst1 hc hb e'.symm))] at hl
          obtain ⟨_, _, cs, h3, _⟩ := hb1 c hc hl
          exact h3.lt
        by_cases ec : c = b
        · subst ec
          have hne := slot_ne sp.slots hc hd hcd
          simp only [if_true, if_neg (Ne.symm hne)]
          exact Nat.ne_of_gt (key d hd (Ne.symm hcd) hld)
        · by_cases ed : d = b
          · subst ed
            have hne := slot_ne sp.slots hc hd hcd
            simp only [if_true, if_neg hne]
            exact Nat.ne_of_lt (key c hc hcd hlc)
          · simp only [if_neg (slot_ne sp.slots hc hb ec), if_neg (slot_ne sp.slots hd hb ed)]
            rw [getD_set_ne false (fun e' => ec (al_inj hst1 hc hb e'.symm))] at hlc
            rw [getD_set_ne false (fun e' => ed (al_inj hst1 hd hb e'.symm))] at hld
            exact hb2 c hc d hd hlc hld hcd
      · simp; omega
      · intro c hc hl
        by_cases e : c = b
        · subst e; exact getD_set_self hi
        · rw [getD_set_ne false (al_ne sp.nums hb hc)] at hl
          rw [getD_set_ne false (fun e' => e (al_inj hst1 hc hb e'.symm))]
          exact hsa c hc hl
    · by_cases hS : ∃ b ∈ bs, b.st = i
      · obtain ⟨b, hb, rfl⟩ := hS
        obtain ⟨e, he, hbi, heq⟩ := sp.pre b hb o ho
        have hla : listed.getD b.al false = true := heq ▸ hp e he hbi
        obtain ⟨h1, h2, cs, h3, h4, _⟩ := hb1 b hb hla
        have hz : cs = b.z := h4 (getD_false_of hi)
        subst hz
        refine hst b hb listed a w (B b.slot) _ o ho hi hp hJ h1 h2 h3 ?_
        intro w' cs' k1 k2 k3 k4 k5 kJ
        refine ⟨kJ, hsz, ⟨B, ?_, ?_⟩, by omega, ?_⟩
        · intro c hc hl
          rw [getD_set_ne false (Ne.symm (al_ne sp.nums hc hb))] at hl
          by_cases e : c = b
          · subst e
            refine ⟨h1, h2, cs', k1, fun h => ?_, fun _ => k5⟩
            rw [getD_set_self hi] at h; cases h
          · obtain ⟨m1, m2, ds, m3, m4, m5⟩ := hb1 c hc hl
            have hne := hb2 c hc b hb hl hla e
            rw [getD_set_ne false (fun e' => e (al_inj hst2 hc hb e'.symm))]
            exact ⟨m1, m2, ds, (k2 _ hne).trans m3, m4, fun h => k4 c hc ds (m5 h)⟩
        · intro c hc d hd hlc hld hcd
          rw [getD_set_ne false (Ne.symm (al_ne sp.nums hc hb))] at hlc
          rw [getD_set_ne false (Ne.symm (al_ne sp.nums hd hb))] at hld
          exact hb2 c hc d hd hlc hld hcd
        · intro c hc hl
          rw [getD_set_ne false (Ne.symm (al_ne sp.nums hc hb))]
          by_cases e : c = b
          · subst e; exact hla
          · rw [getD_set_ne false (fun e' => e (al_inj hst2 hc hb e'.symm))] at hl
            exact hsa c hc hl
      · have hno : ∀ b ∈ bs, b.al ≠ i ∧ b.st ≠ i := fun b hb => ⟨fun e => hA ⟨b, hb, e⟩, fun e => hS ⟨b, hb, e⟩⟩
        refine wpOp_mono ?_ (hot listed a w i o ho hno hi hp hJ)
        rintro a' w' ⟨kJ, kb, kt, ks⟩
        refine ⟨kJ, by omega, ⟨B, ?_, ?_⟩, Nat.le_trans hn kb.size, ?_⟩
        · intro c hc hl
          rw [getD_set_ne false (Ne.symm (hno c hc).1)] at hl
          obtain ⟨m1, m2, ds, m3, m4, m5⟩ := hb1 c hc hl
          rw [getD_set_ne false (Ne.symm (hno c hc).2)]
          exact ⟨(kt c hc).trans m1, m2, ds, m3.below kb (Nat.le_refl _), m4, fun h => hG c hc ds _ _ (m5 h) kb⟩
        · intro c hc d hd hlc hld hcd
          rw [getD_set_ne false (Ne.symm (hno c hc).1)] at hlc
          rw [getD_set_ne false (Ne.symm (hno d hd).1)] at hld
          exact hb2 c hc d hd hlc hld hcd
        · intro c hc hl
          rw [getD_set_ne false (Ne.symm (hno c hc).2)] at hl
          rw [getD_set_ne false (Ne.symm (hno c hc).1)]
          exact hsa c hc hl
  · rintro listed a w hall ⟨hJ, hsz, ⟨B, hb1, hb2⟩, hn, hsa⟩
    refine hend listed a w B hall hJ hsz (fun b hb => ?_) (fun b hb c hc => hb2 b hb c hc (hall _ (sp.lt b hb).1) (hall _ (sp.lt c hc).1))
    obtain ⟨h1, h2, cs, h3, h4, h5⟩ := hb1 b hb (hall _ (sp.lt b hb).1)
    exact ⟨h1, h2, cs, h3, h5 (hall _ (sp.lt b hb).2)⟩

theorem fold_put {bs : List BoxD} {B : Nat → Nat} : ∀ {a0 : Act}, (∀ b ∈ bs, b.slot < a0.tmps.size) →
    (bs.foldl (fun a b => a.put (some b.slot) (ptrTo (B b.slot))) a0).defers = a0.defers ∧ (bs.foldl (fun a b => a.put (some b.slot) (ptrTo (B b.slot))) a0).tmps.size = a0.tmps.size ∧
    ∀ t, (bs.foldl (fun a b => a.put (some b.slot) (ptrTo (B b.slot))) a0).tmps[t]? = if t ∈ bs.map (·.slot) then some (ptrTo (B t)) else a0.tmps[t]? := by
  induction bs with
  | nil => intro a0 _; exact ⟨rfl, rfl, fun t => by simp⟩
  | cons x xs ih =>
    intro a0 h
    have hx := h x (by simp)
    have hs : (a0.put (some x.slot) (ptrTo (B x.slot))).tmps.size = a0.tmps.size := by simp [Act.put]
    obtain ⟨h1, h2, h3⟩ := ih (a0 := a0.put (some x.slot) (ptrTo (B x.slot))) (fun b hb => by rw [hs]; exact h b (List.mem_cons_of_mem _ hb))
    simp only [List.foldl_cons]
    refine ⟨h1.trans rfl, h2.trans hs, fun t => ?_⟩
    rw [h3 t, act_put_get hx]
    simp only [List.map_cons, List.mem_cons]
    by_cases e : t ∈ xs.map (·.slot)
    · simp [e]
    · by_cases e2 : x.slot = t
      · subst e2; simp [e]
      · simp [e, e2, Ne.symm e2]

/-- variables alone: the values of the stores are known in the frame with which one begins -/
theorem wpAnyH_vars {a0 : Act} {w0 : World} {listed0 : Array Bool} {fuel : Nat} (bs : List BoxD) (V : BoxD → Array Value) (hB : boxesB ops bs = true) (hls : listed0.size = ops.size) (hfu : unl listed0 ≤ fuel)
    (hl0 : ∀ b ∈ bs, listed0.getD b.al false = false ∧ listed0.getD b.st false = false)
    (hrest : ∀ i, i < ops.size → listed0.getD i true = false → ∃ b ∈ bs, b.al = i ∨ b.st = i)
    (hsl : ∀ b ∈ bs, b.slot < a0.tmps.size) (hS : ∀ w, Below w0.heap.size w0 w → S w)
    (hal : ∀ b ∈ bs, ∀ a w K, K (a.put (some b.slot) (ptrTo w.heap.size)) (w.alloc (.cells b.z b.ty)) → wpOp P ops Q b.al K a w)
    (hst : ∀ b ∈ bs, ∀ (a : Act) (w : World) (B : Nat) K, (∀ t, (∀ c ∈ bs, c.slot ≠ t) → a.tmps[t]? = a0.tmps[t]?) → a.tmps[b.slot]? = some (ptrTo B) → Bx w B b.z b.ty →
      (∀ w', Bx w' B (V b) b.ty → (∀ c, c ≠ B → w'.heap[c]? = w.heap[c]?) → w'.heap.size = w.heap.size → (∀ n, n ≤ B → Below n w w') → K a w') → wpOp P ops Q b.st K a w)
    (hend : ∀ w (B : Nat → Nat), Below w0.heap.size w0 w → (∀ b ∈ bs, w0.heap.size ≤ B b.slot ∧ Bx w (B b.slot) (V b) b.ty) → (∀ b ∈ bs, ∀ c ∈ bs, b ≠ c → B b.slot ≠ B c.slot) → Q .normal (bs.foldl (fun a b => a.put (some b.slot) (ptrTo (B b.slot))) a0) w) :
    wpAnyH P .any ops Q S fuel listed0 a0 w0 := by
  refine wpAnyH_boxes bs hB (fun listed a w => (∀ i, listed0.getD i true = true → listed.getD i true = true) ∧ Below w0.heap.size w0 w ∧ a.defers = a0.defers ∧ ∀ t, (∀ c ∈ bs, c.slot ≠ t) → a.tmps[t]? = a0.tmps[t]?)
    (fun b cs _ => cs = V b) w0.heap.size (Nat.le_refl _) hls hfu hl0 hsl (fun _ _ _ _ _ h _ => h) ⟨fun _ h => h, Below.refl _ _, rfl, fun _ _ => rfl⟩ (fun _ _ _ h => hS _ h.2.1) hal ?_ ?_ ?_ ?_
  · rintro b hb listed a w ⟨j1, j2, j3, j4⟩ hn hi
    refine ⟨fun i h => ?_, j2.alloc j2.size _, j3, fun t ht => ?_⟩
    · by_cases e : b.al = i
      · subst e; have := j1 _ h; rw [hi] at this; cases this
      · rw [getD_set_ne true e]; exact j1 i h
    · show (a.tmps.setIfInBounds b.slot _)[t]? = _
      rw [Array.getElem?_setIfInBounds_ne (ht b hb)]; exact j4 t ht
  · rintro b hb listed a w B K o ho hi hp ⟨j1, j2, j3, j4⟩ hs hn hbx hK
    refine hst b hb a w B K j4 hs hbx (fun w' k1 k2 k3 k4 => hK w' _ k1 k2 k3 (fun _ _ _ h => h) rfl ⟨fun i h => ?_, j2.trans (k4 _ hn), j3, j4⟩)
    by_cases e : b.st = i
    · subst e; have := j1 _ h; rw [hi] at this; cases this
    · rw [getD_set_ne true e]; exact j1 i h
  · rintro listed a w i o ho hno hi hp ⟨j1, _⟩
    exfalso
    obtain ⟨hlt, _⟩ := Array.getElem?_eq_some_iff.1 ho
    cases hq : listed0.getD i true with
    | true => have := j1 i hq; rw [hi] at this; cases this
    | false =>
      obtain ⟨b, hb, h | h⟩ := hrest i hlt hq
      · exact (hno b hb).1 h
      · exact (hno b hb).2 h
  · rintro listed a w B hall ⟨j1, j2, j3, j4⟩ hsz hb hd
    have hf := fold_put (bs := bs) (B := B) (a0 := a0) hsl
    have ha : a = bs.foldl (fun a b => a.put (some b.slot) (ptrTo (B b.slot))) a0 := by
      have ht : a.tmps = (bs.foldl (fun a b => a.put (some b.slot) (ptrTo (B b.slot))) a0).tmps := by
        apply Array.ext_getElem?
        intro t
        rw [hf.2.2 t]
        by_cases e : t ∈ bs.map (·.slot)
        · rw [if_pos e]
          obtain ⟨b, hbm, rfl⟩ := List.mem_map.1 e
          exact (hb b hbm).1
        · rw [if_neg e]
          exact j4 t (fun c hc h => e (List.mem_map.2 ⟨c, hc, h⟩))
      have hdf := j3.trans hf.1.symm
      revert ht hdf
      cases a
      generalize bs.foldl (fun a b => a.put (some b.slot) (ptrTo (B b.slot))) a0 = a1
      cases a1
      intro ht hdf
      simp only at ht hdf
      subst ht hdf
      rfl
    rw [ha]
    exact hend w B j2 (fun b hbm => by obtain ⟨_, h2, cs, h3, h4⟩ := hb b hbm; exact ⟨h2, h4 ▸ h3⟩) hd

/-- of each in a list -/
def AllB (p : BoxD → Prop) : List BoxD → Prop
  | [] => True
  | b :: bs => p b ∧ AllB p bs
theorem AllB.mem {p : BoxD → Prop} : ∀ {bs : List BoxD}, AllB p bs → ∀ b ∈ bs, p b
  | b :: bs, h, c, hc => by
    rcases List.mem_cons.1 hc with rfl | hc
    · exact h.1
    · exact AllB.mem h.2 c hc
/-- stores into a block's cells k, k+1 .. -/
def setAll (w : World) (B : Nat) : Nat → List Value → World
  | _, [] => w
  | k, v :: vs => setAll (w.setCell ⟨B, k, none⟩ v) B (k + 1) vs
theorem setAll_facts {B : Nat} {t : TypeId} : ∀ (vs : List Value) (k : Nat) (w : World) (pre post : List Value), pre.length = k → post.length = vs.length → Bx w B (pre ++ post).toArray t →
    Bx (setAll w B k vs) B (pre ++ vs).toArray t ∧ (∀ c, c ≠ B → (setAll w B k vs).heap[c]? = w.heap[c]?) ∧ (setAll w B k vs).heap.size = w.heap.size ∧ ∀ n, n ≤ B → Below n w (setAll w B k vs)
  | [], k, w, pre, post, hk, hp, hb => by
    have : post = [] := by simpa using hp
    subst this
    exact ⟨hb, fun _ _ => rfl, rfl, fun _ _ => Below.refl _ _⟩
  | v :: vs, k, w, pre, [], hk, hp, hb => by simp at hp
  | v :: vs, k, w, pre, z :: post, hk, hp, hb => by
    have h1 := hb.set k v
    have e : ((pre ++ z :: post).toArray.setIfInBounds k v) = ((pre ++ [v]) ++ post).toArray := by
      subst hk
      simp
    rw [e] at h1
    obtain ⟨i1, i2, i3, i4⟩ := setAll_facts vs (k + 1) (w.setCell ⟨B, k, none⟩ v) (pre ++ [v]) post (by simp [hk]) (by simpa using hp) h1
    refine ⟨by simpa [setAll] using i1, fun c hc => ?_, ?_, fun n hn => ?_⟩
    · exact (i2 c hc).trans (heap_setCell_other w ⟨B, k, none⟩ c v hc)
    · refine i3.trans ?_
      simp [World.setCell]
    · exact ((Below.refl n w).setCell (p := ⟨B, k, none⟩) hn v).trans (i4 n hn)

theorem wpAnyH_locals {a0 : Act} {w0 : World} {listed0 : Array Bool} {fuel : Nat} (bs : List BoxD) (hB : boxesB ops bs = true) (hls : listed0.size = ops.size) (hfu : unl listed0 ≤ fuel)
    (hl0 : (bs.all fun b => !listed0.getD b.al false && !listed0.getD b.st false && decide (b.slot < a0.tmps.size) && decide (b.z.size = b.v.length)) = true)
    (hrest : ((List.range ops.size).all fun i => listed0.getD i true || bs.any fun b => b.al == i || b.st == i) = true)
    (hS : ∀ w, Below w0.heap.size w0 w → S w)
    (hal : AllB (fun b => ∀ a w K, K (a.put (some b.slot) (ptrTo w.heap.size)) (w.alloc (.cells b.z b.ty)) → wpOp P ops Q b.al K a w) bs)
    (hst : AllB (fun b => ∀ (a : Act) (w : World) (B : Nat) K, (∀ t, (∀ c ∈ bs, c.slot ≠ t) → a.tmps[t]? = a0.tmps[t]?) → a.tmps[b.slot]? = some (ptrTo B) → Bx w B b.z b.ty → K a (setAll w B 0 b.v) → wpOp P ops Q b.st K a w) bs)
    (hend : ∀ w (B : Nat → Nat), Below w0.heap.size w0 w → AllB (fun b => w0.heap.size ≤ B b.slot ∧ Bx w (B b.slot) b.v.toArray b.ty) bs → (∀ b ∈ bs, ∀ c ∈ bs, b ≠ c → B b.slot ≠ B c.slot) → Q .normal (bs.foldl (fun a b => a.put (some b.slot) (ptrTo (B b.slot))) a0) w) :
    wpAnyH P .any ops Q S fuel listed0 a0 w0 := by
  simp only [List.all_eq_true, Bool.and_eq_true, Bool.not_eq_true', decide_eq_true_eq] at hl0
  refine wpAnyH_vars bs (fun b => b.v.toArray) hB hls hfu (fun b hb => ⟨(hl0 b hb).1.1.1, (hl0 b hb).1.1.2⟩) ?_ (fun b hb => (hl0 b hb).1.2) hS hal.mem ?_ ?_
  · intro i hi h
    rw [List.all_eq_true] at hrest
    have := hrest i (List.mem_range.2 hi)
    rw [h, Bool.false_or, List.any_eq_true] at this
    obtain ⟨b, hb, h2⟩ := this
    simp only [Bool.or_eq_true, beq_iff_eq] at h2
    exact ⟨b, hb, h2⟩
  · intro b hb a w B K h1 h2 h3 h4
    have hf := setAll_facts (B := B) (t := b.ty) b.v 0 w [] b.z.toList rfl (by simpa using (hl0 b hb).2) (by simpa using h3)
    exact hst.mem b hb a w B K h1 h2 h3 (h4 _ (by simpa using hf.1) hf.2.1 hf.2.2.1 hf.2.2.2)
  · intro w B h1 h2 h3
    refine hend w B h1 ?_ h3
    clear hl0 hrest hal hst hfu hls hB h3 hend
    induction bs with
    | nil => trivial
    | cons b bs ih => exact ⟨h2 b (by simp), ih (fun c hc => h2 c (List.mem_cons_of_mem _ hc))⟩
end
end Go.Proofs.YtoikcgmdlccdbaaDoor
