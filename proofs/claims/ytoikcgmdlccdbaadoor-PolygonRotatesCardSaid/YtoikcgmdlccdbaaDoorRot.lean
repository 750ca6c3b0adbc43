/- Strictly convex polygons, rotated and reversed: validity, orientation, positions; in plain Lean. No program's run. -/
import Derived.Test.YtoikcgmdlccdbaaDoorPolyP
namespace Go.Proofs.YtoikcgmdlccdbaaDoor
set_option linter.unusedVariables false
set_option linter.unusedSimpArgs false
open Go.RowKit Wd

theorem nx {n e : Nat} (h : e < n) : (e + 1) % n = if e + 1 < n then e + 1 else 0 := by
  split
  · exact Nat.mod_eq_of_lt ‹_›
  · rw [show e + 1 = n by omega, Nat.mod_self]
def rt (n i j : Nat) : Nat := if j + i < n then j + i else j + i - n
def rv (n j : Nat) : Nat := n - 1 - j
theorem sg_pm {s x : Int} (hs : s = 1 ∨ s = -1) : sg (s * x) = s * sg x := by
  rcases hs with rfl | rfl
  · simp
  · rcases sg_cases x with ⟨h, e⟩ | ⟨h, e⟩ | ⟨h, e⟩ <;> rcases sg_cases (-1 * x) with ⟨h2, e2⟩ | ⟨h2, e2⟩ | ⟨h2, e2⟩ <;> rw [e, e2] <;> omega
structure Turned (f g f' g' : Nat → Int) (n : Nat) (s : Int) (σ τ : Nat → Nat) : Prop where
  hs : s = 1 ∨ s = -1
  vx : ∀ j, j < n → σ j < n ∧ f' j = f (σ j) ∧ g' j = g (σ j)
  eg : ∀ e, e < n → τ e < n ∧ ∀ x y, edg f' g' n e x y = s * edg f g n (τ e) x y
  ds : ∀ e j, e < n → j < n → j ≠ e → j ≠ (e + 1) % n → σ j ≠ τ e ∧ σ j ≠ (τ e + 1) % n
  on : ∀ e, e < n → ∃ e', e' < n ∧ τ e' = e
theorem Turned.valid {f g f' g' : Nat → Int} {n : Nat} {s : Int} {σ τ : Nat → Nat} (h : Turned f g f' g' n s σ τ) (ho : ori f' g' n = s * ori f g n) (hv : validP f g n = true) : validP f' g' n = true := by
  obtain ⟨hin, h0, hall⟩ := validP_iff.1 hv
  refine validP_iff.2 ⟨hin, ?_, fun i j hi hj h1 h2 => ?_⟩
  · rw [ho]; rcases h.hs with e | e <;> rw [e] <;> omega
  · obtain ⟨d1, d2⟩ := h.ds i j hi hj h1 h2
    obtain ⟨v1, v2, v3⟩ := h.vx j hj
    obtain ⟨e1, e2⟩ := h.eg i hi
    rw [e2, v2, v3, sg_pm h.hs, hall _ _ e1 v1 d1 d2, ho]
theorem Turned.side {f g f' g' : Nat → Int} {n : Nat} {s : Int} {σ τ : Nat → Nat} (h : Turned f g f' g' n s σ τ) (ho : ori f' g' n = s * ori f g n) {e : Nat} (he : e < n) (x y : Int) : sideP f' g' n x y e = sideP f g n x y (τ e) := by
  unfold sideP
  rw [(h.eg e he).2, ho, sg_pm h.hs]
  rcases h.hs with e | e <;> rw [e] <;> grind
theorem Turned.any {f g f' g' : Nat → Int} {n : Nat} {s : Int} {σ τ : Nat → Nat} (h : Turned f g f' g' n s σ τ) (ho : ori f' g' n = s * ori f g n) (x y : Int) (p : Int → Bool) : anyB (fun e => p (sideP f' g' n x y e)) n = anyB (fun e => p (sideP f g n x y e)) n := by
  apply Bool.eq_iff_iff.2
  rw [anyB_iff, anyB_iff]
  constructor
  · rintro ⟨e, he, hp⟩
    exact ⟨τ e, (h.eg e he).1, by rw [← h.side ho he]; exact hp⟩
  · rintro ⟨e, he, hp⟩
    obtain ⟨e', he', rfl⟩ := h.on e he
    exact ⟨e', he', by rw [h.side ho he']; exact hp⟩
theorem Turned.loc {f g f' g' : Nat → Int} {n : Nat} {s : Int} {σ τ : Nat → Nat} (h : Turned f g f' g' n s σ τ) (ho : ori f' g' n = s * ori f g n) (x y : Int) : locP f' g' n x y = locP f g n x y := by
  unfold locP
  rw [h.any ho x y (fun v => decide (v < 0)), h.any ho x y (fun v => decide (v = 0))]
theorem rt_lt {n i j : Nat} (hi : i < n) (hj : j < n) : rt n i j < n := by unfold rt; split <;> omega
theorem rt_nx {n i j : Nat} (hi : i < n) (hj : j < n) : rt n i ((j + 1) % n) = (rt n i j + 1) % n := by
  rw [nx hj, nx (rt_lt hi hj)]; unfold rt; split <;> split <;> split <;> (try split) <;> omega
theorem rt_inj {n i j k : Nat} (hi : i < n) (hj : j < n) (hk : k < n) (h : rt n i j = rt n i k) : j = k := by unfold rt at h; split at h <;> split at h <;> omega
theorem rt_back {n i j : Nat} (hi : i < n) (hj : j < n) : rt n i (rt n (if i = 0 then 0 else n - i) j) = j := by unfold rt; split <;> split <;> split <;> omega
theorem turned_rt {f g f' g' : Nat → Int} {n i : Nat} (hn : 3 ≤ n) (hi : i < n) (h : ∀ j, j < n → f' j = f (rt n i j) ∧ g' j = g (rt n i j)) : Turned f g f' g' n 1 (rt n i) (rt n i) := by
  refine ⟨.inl rfl, fun j hj => ⟨rt_lt hi hj, h j hj⟩, fun e he => ⟨rt_lt hi he, fun x y => ?_⟩, fun e j he hj h1 h2 => ⟨fun e1 => h1 (rt_inj hi hj he e1), fun e1 => ?_⟩, fun e he => ⟨_, rt_lt (i := if i = 0 then 0 else n - i) (by split <;> omega) he, rt_back hi he⟩⟩
  · have hm : (e + 1) % n < n := Nat.mod_lt _ (by omega)
    unfold edg
    rw [(h e he).1, (h e he).2, (h _ hm).1, (h _ hm).2, rt_nx hi he]; simp
  · rw [← rt_nx hi he] at e1
    exact h2 (rt_inj hi hj (Nat.mod_lt _ (by omega)) e1)
theorem mod2 {n i : Nat} (hn : 3 ≤ n) (hi : i < n) : (i + 2) % n = rt n i 2 := by
  unfold rt; split
  · rw [Nat.mod_eq_of_lt (by omega)]; omega
  · rcases (by omega : i + 2 = n ∨ i + 2 = n + 1) with h | h
    · rw [h, Nat.mod_self]; omega
    · rw [h, Nat.add_mod_left, Nat.mod_eq_of_lt (by omega)]; omega
theorem ori_rt {f g f' g' : Nat → Int} {n i : Nat} (hi : i < n) (h : ∀ j, j < n → f' j = f (rt n i j) ∧ g' j = g (rt n i j)) (hv : validP f g n = true) : ori f' g' n = 1 * ori f g n := by
  have hin := (validP_iff.1 hv).1
  have h3 := hin.1
  rw [ori_in hin, (h 0 (by omega)).1, (h 0 (by omega)).2, (h 1 (by omega)).1, (h 1 (by omega)).2, (h 2 (by omega)).1, (h 2 (by omega)).2, ← tri_sg hv hi, mod2 h3 hi,
    show rt n i 0 = i from by unfold rt; split <;> omega, show rt n i 1 = (i + 1) % n from by rw [nx hi]; unfold rt; split <;> split <;> omega]
  simp
theorem rv_lt {n j : Nat} (hj : j < n) : rv n j < n := by unfold rv; omega
def rve (n e : Nat) : Nat := rv n ((e + 1) % n)
theorem rve_eq {n e : Nat} (he : e < n) : rve n e = if e + 1 < n then n - 2 - e else n - 1 := by
  unfold rve; rw [nx he]; unfold rv; split <;> omega
theorem rve_nx {n e : Nat} (hn : 3 ≤ n) (he : e < n) : (rve n e + 1) % n = rv n e := by
  have h : rve n e < n := by rw [rve_eq he]; split <;> omega
  rw [nx h, rve_eq he]; unfold rv; split <;> split <;> omega
theorem turned_rv {f g f' g' : Nat → Int} {n : Nat} (hn : 3 ≤ n) (h : ∀ j, j < n → f' j = f (rv n j) ∧ g' j = g (rv n j)) : Turned f g f' g' n (-1) (rv n) (rve n) := by
  have hl : ∀ e, e < n → rve n e < n := fun e he => by rw [rve_eq he]; split <;> omega
  refine ⟨.inr rfl, fun j hj => ⟨rv_lt hj, h j hj⟩, fun e he => ⟨hl e he, fun x y => ?_⟩, fun e j he hj h1 h2 => ⟨fun e1 => ?_, fun e1 => ?_⟩, fun e he => ⟨rve n e, hl e he, ?_⟩⟩
  · have hm : (e + 1) % n < n := Nat.mod_lt _ (by omega)
    unfold edg
    rw [(h e he).1, (h e he).2, (h _ hm).1, (h _ hm).2, rve_nx hn he]
    unfold rve det; grind
  · have hm : (e + 1) % n < n := Nat.mod_lt _ (by omega)
    unfold rve rv at e1; omega
  · rw [rve_nx hn he] at e1; unfold rv at e1; omega
  · rw [rve_eq (hl e he), rve_eq he]; split <;> split <;> omega
theorem ori_rv {f g f' g' : Nat → Int} {n : Nat} (h : ∀ j, j < n → f' j = f (rv n j) ∧ g' j = g (rv n j)) (hv : validP f g n = true) : ori f' g' n = -1 * ori f g n := by
  have hin := (validP_iff.1 hv).1
  have h3 := hin.1
  rw [ori_in hin, (h 0 (by omega)).1, (h 0 (by omega)).2, (h 1 (by omega)).1, (h 1 (by omega)).2, (h 2 (by omega)).1, (h 2 (by omega)).2, ← tri_sg hv (k := n - 3) (by omega),
    Nat.mod_eq_of_lt (by omega), Nat.mod_eq_of_lt (by omega), ← sg_pm (.inr rfl)]
  unfold rv
  rw [show n - 1 - 2 = n - 3 by omega, show n - 1 - 1 = n - 3 + 1 by omega, show n - 1 - 0 = n - 3 + 2 by omega]
  congr 1; unfold det; grind
theorem valid_rt {f g f' g' : Nat → Int} {n i : Nat} (hn : 3 ≤ n) (hi : i < n) (h : ∀ j, j < n → f' j = f (rt n i j) ∧ g' j = g (rt n i j)) : validP f' g' n = validP f g n := by
  have hb : (if i = 0 then 0 else n - i) < n := by split <;> omega
  apply Bool.eq_iff_iff.2
  refine ⟨fun hv => ?_, fun hv => (turned_rt hn hi h).valid (ori_rt hi h hv) hv⟩
  have h2 : ∀ j, j < n → f j = f' (rt n (if i = 0 then 0 else n - i) j) ∧ g j = g' (rt n (if i = 0 then 0 else n - i) j) := fun j hj => by
    have := h _ (rt_lt hb hj); rw [rt_back hi hj] at this; exact ⟨this.1.symm, this.2.symm⟩
  exact (turned_rt hn hb h2).valid (ori_rt hb h2 hv) hv
theorem valid_rv {f g f' g' : Nat → Int} {n : Nat} (hn : 3 ≤ n) (h : ∀ j, j < n → f' j = f (rv n j) ∧ g' j = g (rv n j)) : validP f' g' n = validP f g n := by
  apply Bool.eq_iff_iff.2
  refine ⟨fun hv => ?_, fun hv => (turned_rv hn h).valid (ori_rv h hv) hv⟩
  have h2 : ∀ j, j < n → f j = f' (rv n j) ∧ g j = g' (rv n j) := fun j hj => by
    have := h _ (rv_lt hj); rw [show rv n (rv n j) = j from by unfold rv; omega] at this; exact ⟨this.1.symm, this.2.symm⟩
  exact (turned_rv hn h2).valid (ori_rv h2 hv) hv
theorem loc_rt {f g f' g' : Nat → Int} {n i : Nat} (hn : 3 ≤ n) (hi : i < n) (h : ∀ j, j < n → f' j = f (rt n i j) ∧ g' j = g (rt n i j)) (hv : validP f g n = true) (x y : Int) : locP f' g' n x y = locP f g n x y := (turned_rt hn hi h).loc (ori_rt hi h hv) x y
theorem loc_rv {f g f' g' : Nat → Int} {n : Nat} (hn : 3 ≤ n) (h : ∀ j, j < n → f' j = f (rv n j) ∧ g' j = g (rv n j)) (hv : validP f g n = true) (x y : Int) : locP f' g' n x y = locP f g n x y := (turned_rv hn h).loc (ori_rv h hv) x y
end Go.Proofs.YtoikcgmdlccdbaaDoor
