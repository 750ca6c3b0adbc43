/- A region that draws its order, shown by a condition on its states: for every set of operations that have come up a condition holds, each operation keeps it, and at the end it gives the post. -/
import Derived.OrdersHeld
import Derived.Deep.RegionHeld3
namespace Go.Proofs.YtoikcgmdlccdbaaDoor
set_option linter.unusedVariables false
set_option linter.unusedSimpArgs false

/-- how many operations have not come up yet -/
def unl (l : Array Bool) : Nat := l.toList.countP (fun b => !b)
theorem getD_lt {l : Array Bool} {i : Nat} (h : l.getD i true = false) : ∃ h' : i < l.size, l[i] = false := by
  by_cases hi : i < l.size
  · refine ⟨hi, ?_⟩; simpa [Array.getD, hi] using h
  · simp [Array.getD, hi] at h
theorem unl_set {l : Array Bool} {i : Nat} (h : l.getD i true = false) : unl (l.setIfInBounds i true) + 1 = unl l := by
  obtain ⟨hi, he⟩ := getD_lt h
  have hl : i < l.toList.length := by simpa using hi
  have he' : l.toList[i] = false := by simpa using he
  unfold unl
  rw [Array.toList_setIfInBounds, List.countP_set hl]
  have hpos : 0 < l.toList.countP (fun b => !b) := List.countP_pos_iff.2 ⟨false, by rw [← he']; exact List.getElem_mem hl, rfl⟩
  rw [he']
  generalize l.toList.countP (fun b => !b) = k at hpos ⊢
  simp
  omega
theorem all_of_unl {l : Array Bool} (h : unl l = 0) : ∀ i, i < l.size → l.getD i false = true := by
  intro i hi
  unfold unl at h
  rw [List.countP_eq_zero] at h
  have := h (l.toList[i]'(by simpa using hi)) (List.getElem_mem _)
  simp at this
  simp [Array.getD, hi, this]

section
variable {P : Program} {ops : Array Oper} {Q : Exit → Act → World → Prop} {md : Region.Mode}
/-- each operation waits for earlier ones alone -/
def ordB (md : Region.Mode) (ops : Array Oper) : Bool := (List.range ops.size).all fun i => ((ops[i]?).map fun o => o.after.all fun e => !Region.binds md e || decide (e.on < i)).getD true
theorem ordB_spec (h : ordB md ops = true) {i : Nat} {o : Oper} (ho : ops[i]? = some o) : ∀ e ∈ o.after, Region.binds md e = true → e.on < i := by
  unfold ordB at h
  rw [List.all_eq_true] at h
  have hi : i < ops.size := (Array.getElem?_eq_some_iff.1 ho).1
  have := h i (List.mem_range.2 hi)
  rw [ho] at this
  simp only [Option.map_some, Option.getD_some, Array.all_eq_true_iff_forall_mem, Bool.or_eq_true, Bool.not_eq_true', decide_eq_true_eq] at this
  intro e he hb
  rcases this e he with h | h
  · rw [hb] at h; cases h
  · exact h
theorem all_of_ready {listed : Array Bool} (hord : ordB md ops = true) (hs : listed.size = ops.size) (hr : Region.ready md ops listed = []) : ∀ i, i < ops.size → listed.getD i false = true := by
  intro i
  induction i using Nat.strongRecOn with
  | _ i ih =>
    intro hi
    cases hl : listed.getD i true with
    | true => simpa [Array.getD, hs, hi] using hl
    | false =>
      exfalso
      obtain ⟨o, ho⟩ : ∃ o, ops[i]? = some o := ⟨ops[i], by simp [hi]⟩
      have : i ∈ Region.ready md ops listed := mem_ready.2 ⟨hl, o, ho, fun e he hb => by
        have hlt := ordB_spec hord ho e he hb
        exact ih _ hlt (by omega)⟩
      rw [hr] at this
      cases this

theorem wpAny_inv (I : Array Bool → Act → World → Prop) (hord : ordB md ops = true)
    (hstep : ∀ (listed : Array Bool) (a : Act) (w : World) (i : Nat) (o : Oper), listed.size = ops.size → ops[i]? = some o → listed.getD i true = false → (∀ e ∈ o.after, Region.binds md e = true → listed.getD e.on false = true) →
      I listed a w → wpOp P ops Q i (I (listed.setIfInBounds i true)) a w)
    (hend : ∀ (listed : Array Bool) (a : Act) (w : World), (∀ i, i < ops.size → listed.getD i false = true) → I listed a w → Q .normal a w) :
    ∀ (fuel : Nat) (listed : Array Bool) (a : Act) (w : World), listed.size = ops.size → unl listed ≤ fuel → I listed a w → wpAny P md ops Q fuel listed a w := by
  intro fuel
  induction fuel with
  | zero =>
    intro listed a w hs hu hI
    have hall := all_of_unl (l := listed) (by omega)
    refine ⟨?_, hend _ _ _ (fun i hi => hall i (by omega)) hI⟩
    rw [List.eq_nil_iff_forall_not_mem]
    intro i hi
    obtain ⟨h0, o, ho, _⟩ := mem_ready.1 hi
    obtain ⟨hi', he⟩ := getD_lt h0
    have := hall i hi'
    simp [Array.getD, hi', he] at this
  | succ fuel ih =>
    intro listed a w hs hu hI
    refine ⟨fun hr => hend _ _ _ (all_of_ready hord hs hr) hI, fun i hi => ?_⟩
    obtain ⟨h0, o, ho, hp⟩ := mem_ready.1 hi
    refine wpOp_mono (fun a' w' h' => ih _ a' w' (by simpa using hs) (by have := unl_set h0; omega) h') (hstep listed a w i o hs ho h0 hp hI)

/-- the same, where a condition S on the world is kept besides -/
theorem wpAnyH_inv {S : World → Prop} (I : Array Bool → Act → World → Prop) (hord : ordB md ops = true) (hS : ∀ listed a w, I listed a w → S w)
    (hstep : ∀ (listed : Array Bool) (a : Act) (w : World) (i : Nat) (o : Oper), listed.size = ops.size → ops[i]? = some o → listed.getD i true = false → (∀ e ∈ o.after, Region.binds md e = true → listed.getD e.on false = true) →
      I listed a w → wpOp P ops Q i (I (listed.setIfInBounds i true)) a w)
    (hend : ∀ (listed : Array Bool) (a : Act) (w : World), (∀ i, i < ops.size → listed.getD i false = true) → I listed a w → Q .normal a w) :
    ∀ (fuel : Nat) (listed : Array Bool) (a : Act) (w : World), listed.size = ops.size → unl listed ≤ fuel → I listed a w → wpAnyH P md ops Q S fuel listed a w := by
  intro fuel
  induction fuel with
  | zero =>
    intro listed a w hs hu hI
    have hall := all_of_unl (l := listed) (by omega)
    refine ⟨?_, hend _ _ _ (fun i hi => hall i (by omega)) hI⟩
    rw [List.eq_nil_iff_forall_not_mem]
    intro i hi
    obtain ⟨h0, o, ho, _⟩ := mem_ready.1 hi
    obtain ⟨hi', he⟩ := getD_lt h0
    have := hall i hi'
    simp [Array.getD, hi', he] at this
  | succ fuel ih =>
    intro listed a w hs hu hI
    refine ⟨fun hr => hend _ _ _ (all_of_ready hord hs hr) hI, fun i hi => ?_⟩
    obtain ⟨h0, o, ho, hp⟩ := mem_ready.1 hi
    refine wpOp_mono (fun a' w' h' => ⟨hS _ _ _ h', ih _ a' w' (by simpa using hs) (by have := unl_set h0; omega) h'⟩) (hstep listed a w i o hs ho h0 hp hI)
end
end Go.Proofs.YtoikcgmdlccdbaaDoor
